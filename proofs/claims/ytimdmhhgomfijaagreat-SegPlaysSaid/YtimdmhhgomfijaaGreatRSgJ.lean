/- Segments' law: does, kinds 1, 2, 3 and drop. -/
import Derived.Test.YtimdmhhgomfijaaGreatRSgH
import Derived.Test.YtimdmhhgomfijaaGreatOct
namespace Go.Proofs.YtimdmhhgomfijaaGreat
set_option linter.unusedVariables false
set_option linter.unusedSimpArgs false
set_option linter.unnecessarySimpa false
open Go.RowKit
set_option maxRecDepth 100000
set_option maxHeartbeats 40000000
/-- both are alike -/
def PlayE (N : Nat) (L : List Ent) (pp pd pt ps pr : Nat) (W : World) : Prop :=
  ∃ V S lix lsub lb X Gs Gr Al cl, PlayC (fun _ => False) N L pp pd pt ps pr V S S lix lsub lb X Gs Gr Al cl W ∧ WfS S ∧ ValsP L V
def opV (k : Int) (M : Ms) (A3 : Option Addr) (m3 c3 code : Nat) : Array Value := #[.int .i64 k, .int .i64 M.kind, .int .i64 M.ix, .int .i64 M.sub, .bool M.tg, .bool M.la, .bool M.cr, .bool M.sz, .int .u32 (M.size : Nat), .int .u32 (M.code : Nat), .slice A3 m3 c3, .int .i64 M.sq, .int .i64 M.bl, .int .i64 M.em, .int .u16 (M.sum : Nat), .int .u32 (code : Nat)]
/-- behind the acts: what is compared -/
def TailS (N : Nat) (L : List Ent) (pp pd pt ps pr : Nat) (w : World) (As : Option Addr) (ns cs : Nat) (Bs : Option Addr) (nbs cbs : Nat) (W : World) : Prop :=
  Below N w W ∧ N ≤ W.heap.size ∧ ((As = none ∧ ns = 0 ∧ cs = 0 ∧ Bs = none ∧ nbs = 0 ∧ cbs = 0 ∧ PlayE N L pp pd pt ps pr W) ∨
    ∃ M g A n c g2 A2 n2 c2, As = some ⟨g, 0, none⟩ ∧ ns = 1 ∧ cs = 1 ∧ Bs = some ⟨g2, 0, none⟩ ∧ nbs = 1 ∧ cbs = 1 ∧ Blk W g 72 (msV M A n c) ∧ OwnB W N A n c M.data ∧ M.data.length ≤ 200000 ∧ Blk W g2 48 (msV M A2 n2 c2) ∧ n2 = M.data.length ∧ Sl W A2 (M.data.map bv) ∧ ∀ W', Only (fun q => A = some ⟨q, 0, none⟩) W W' → PlayE N L pp pd pt ps pr W')
def DoesE (N : Nat) (L : List Ent) (pp pd pt ps pr : Nat) (w : World) (e : Ending) (w' : World) : Prop := e = .returned (.bool true) ∧ PlayE N L pp pd pt ps pr w' ∧ Below N w w'
theorem SV_.drew {w : World} {G : Nat → Prop} {p pd : Nat} {S : SegS} (h : SV_ w G p pd S) : SV_ w.drew G p pd S := h.keep (fun _ _ _ => rfl) (Nat.le_refl _) (fun _ _ h => h)
theorem RV_.drew {w : World} {G : Nat → Prop} {p pd : Nat} {S : SegS} (h : RV_ w G p pd S) : RV_ w.drew G p pd S := h.keep (fun _ _ _ => rfl) (Nat.le_refl _) (fun _ _ h => h)
theorem only_undrew' {F : Nat → Prop} {w w' : World} (h : Only F w.drew w') : Only F w w' := ⟨h.os, h.tape, h.output, h.size, h.block⟩
theorem wf_abort {S : SegS} : WfS (abortS S) := wf_idle rfl
theorem wf_answer {S : SegS} (h : WfS S) : WfS (answerS S) := by
  unfold answerS
  split
  · exact wf_idle rfl
  · exact h
section
variable {N : Nat} {L : List Ent} {pp pd pt ps pr : Nat}
/-- a state is met again where nothing of it has turned -/
theorem PlayE.none {W W' : World} (h : PlayE N L pp pd pt ps pr W) (ho : Only (fun _ => False) W W') : PlayE N L pp pd pt ps pr W' := by
  obtain ⟨V, S, lix, lsub, lb, X, Gs, Gr, Al, cl, hC, h1, h2⟩ := h
  exact ⟨V, S, lix, lsub, lb, X, _, _, Al, cl, hC.only ho, h1, h2⟩
theorem tail_mk {w W : World} {As Bs : Option Addr} {ns cs nbs cbs N1 N2 : Nat} {l : List Ms} {W1 : World} (hb : Below N w W) (hN : N ≤ W.heap.size) (h : PlayE N L pp pd pt ps pr W) (h1 : MsN 72 W1 N1 As ns cs l) (hk : ∀ g, As = some ⟨g, 0, none⟩ → W.heap[g]? = W1.heap[g]?) (h2 : MsN 48 W N2 Bs nbs cbs l) : TailS N L pp pd pt ps pr w As ns cs Bs nbs cbs W := by
  refine ⟨hb, hN, ?_⟩
  rcases h1 with ⟨rfl, rfl, rfl, rfl⟩ | ⟨M, g, rfl, rfl, rfl, rfl, _, hB, hd⟩
  · rcases h2 with ⟨_, rfl, rfl, rfl⟩ | ⟨M2, g2, h, _⟩
    · exact .inl ⟨rfl, rfl, rfl, rfl, rfl, rfl, h⟩
    · cases h
  · rcases h2 with ⟨h, _⟩ | ⟨M2, g2, hl, rfl, rfl, rfl, _, hB2, _⟩
    · cases h
    · injection hl with hl
      subst hl
      refine .inr ⟨M, g, none, 0, 0, g2, none, 0, 0, rfl, rfl, rfl, rfl, rfl, rfl, (hk g rfl).trans hB, by rw [hd]; exact OwnB.nil _ _, by rw [hd]; exact Nat.zero_le _, hB2, by rw [hd]; rfl, by rw [hd]; exact Sl.nil _ _, fun W' ho => h.none (ho.mono (fun q _ e => by cases e))⟩
end
theorem TailS.drew {N : Nat} {L : List Ent} {pp pd pt ps pr : Nat} {w : World} {As Bs : Option Addr} {ns cs nbs cbs : Nat} {W : World} (h : TailS N L pp pd pt ps pr w As ns cs Bs nbs cbs W) : TailS N L pp pd pt ps pr w As ns cs Bs nbs cbs W.drew := by
  obtain ⟨h1, h2, h3⟩ := h
  refine ⟨h1.trans (Below.drew (Below.refl _ _)), h2, ?_⟩
  rcases h3 with ⟨a, b, c, d, e, f, g⟩ | ⟨M, g, A, n, c, g2, A2, n2, c2, a1, a2, a3, a4, a5, a6, a7, a8, a9, b1, b2, b3, b4⟩
  · exact .inl ⟨a, b, c, d, e, f, g.none (Only.refl _ _).drew⟩
  · exact .inr ⟨M, g, A, n, c, g2, A2, n2, c2, a1, a2, a3, a4, a5, a6, a7.drew, a8.drew, a9, b1.drew, b2, b3.drew, fun W' ho => b4 W' ⟨ho.os, ho.tape, ho.output, ho.size, ho.block⟩⟩
theorem seg_dropN (p pd : Nat) (S : SegS) (G : Nat → Prop) (w : World) (hS : SV_ w G p pd S) :
    Calls Tryz.prog 41 #[.pointer (some ⟨p, 0, none⟩)] w fun e w' => e = .returned (.tuple #[]) ∧ SV_ w' G p pd (segIdle S) ∧ Only (fun q => q = p) w w' := by
  obtain ⟨A, n, c, hB, hb⟩ := id hS
  refine (seg_drop p pd S A n c w hB).mono ?_
  rintro e w' ⟨rfl, hB', ho⟩
  exact ⟨rfl, ⟨A, n, c, hB', fun h => absurd h (show ¬ ((0 : Int) = 1 ∨ (0 : Int) = 2) by decide)⟩, ho⟩
theorem valC_nn (E : Ent) (b : List UInt8) : 0 ≤ valC E b := by
  unfold valC valueE
  (repeat' split) <;> omega
theorem mayC_nn (L : List Ent) (ix sub : Int) (b : List UInt8) (any : Bool) : ∃ k : Nat, mayC L ix sub b any = (k : Int) := ⟨(mayC L ix sub b any).toNat, by
  have : 0 ≤ mayC L ix sub b any := by
    unfold mayC codeL
    (repeat' split) <;> first | omega | exact valC_nn _ _ | (unfold writeE; (repeat' split) <;> omega)
  omega⟩
theorem does_2 {N : Nat} {L : List Ent} {pp pd pt ps pr : Nat} (M : Ms) (A3 : Option Addr) (m3 c3 code : Nat) (w : World) (h : PlayE N L pp pd pt ps pr w) (hs : SortedE L) (hL : L.length ≤ 1000) :
    Calls Tryz.prog 12 #[.pointer (some ⟨pp, 0, none⟩), .agg (opV 2 M A3 m3 c3 code)] w (DoesE N L pp pd pt ps pr w) := by
  obtain ⟨V, S, lix, lsub, lb, X0, Gs0, Gr0, Al, cl, hC0, hwf, hvp⟩ := h
  have hbw := below_alloc (Below.refl w.heap.size w) (.cells (opV 2 M A3 m3 c3 code) 50)
  have hC := hC0.below hbw
  have hpb0 := hC0.pb.lt
  have hNw : N ≤ w.heap.size := by have := hC0.nn.1; omega
  have hbN : Below N w (w.alloc (.cells (opV 2 M A3 m3 c3 code) 50)) := hbw.mono hNw
  have hq := Blk.new w 50 (opV 2 M A3 m3 c3 code)
  obtain ⟨Gs, hGs⟩ : ∃ Gs, Gs = (fun q => Gs0 q ∧ q < w.heap.size) := ⟨_, rfl⟩
  obtain ⟨Gr, hGr⟩ : ∃ Gr, Gr = (fun q => Gr0 q ∧ q < w.heap.size) := ⟨_, rfl⟩
  rw [← hGs, ← hGr] at hC
  have HS := hide hs
  have HL := hide hL
  have HWF := hide hwf
  have HVP := hide hvp
  have hpo : w.heap.size ≠ pp ∧ w.heap.size ≠ ps ∧ w.heap.size ≠ pr := by
    obtain ⟨A0, n0, c0, hsb⟩ := hC0.sv.blk
    obtain ⟨R0, A1, n1, c1, _, hrb, _⟩ := hC0.rv
    have h1 := hsb.lt
    have h2 := hrb.lt
    exact ⟨by omega, by omega, by omega⟩
  have HH : Hid (PlayC (fun _ => False) N L pp pd pt ps pr V S S lix lsub lb X0 Gs Gr Al cl _ ∧ Blk _ w.heap.size 50 (opV 2 M A3 m3 c3 code) ∧ Below N w _) := hide ⟨hC, hq, hbN⟩
  clear hC hC0 hq hbN hbw hs hL hwf hvp hpb0 hGs hGr
  unfold opV at HH
  unfold opV
  go_enter Tryz.func12, Tryz.ntmps12
  go_upto_region 23 with fail
  refine wp_gen (P := fun W => PlayC (fun _ => False) N L pp pd pt ps pr V S S lix lsub lb X0 Gs Gr Al cl W ∧ Blk W w.heap.size 50 (opV 2 M A3 m3 c3 code) ∧ Below N w W) HH.out (fun W hW => ?_)
  clear HH
  obtain ⟨hC, hq, hbN⟩ := hW
  have HC := hide hC
  have HQ := hide hq
  have HBN := hide hbN
  have zp := hC.pb.lt
  have zq := hq.lt
  have pb := hC.pb
  have oq := hq
  unfold opV at oq
  obtain ⟨pb_c0, pb_c1, pb_c2, pb_c3, pb_c4, pb_c5, pb_c6⟩ := cel7 pb
  have pb_f := pb.frozen
  obtain ⟨oq_c0, oq_c1, oq_c2, oq_c3, oq_c4, oq_c5, oq_c6, oq_c7, oq_c8, oq_c9, oq_c10, oq_c11, oq_c12, oq_c13, oq_c14, oq_c15⟩ := cel16 oq
  have oq_f := oq.frozen
  clear hC hq hbN
  have p2 := pb_c2
  have o15 := oq_c15
  refine wp_region_held_drew (S := (fun w' => w'.cell? ⟨pp, 2, none⟩ = some (.pointer (some ⟨ps, 0, none⟩)) ∧ w'.cell? ⟨w.heap.size, 15, none⟩ = some (.int .u32 (code : Nat)))) (by kernel_rfl) ?hS1 (fun hHeld => ?rest1)
  case hS1 => ((try dsimp only); (exact ⟨p2, o15⟩))
  case' rest1 => skip
  refine wpAnyH_take (i := 0) (oi := _) (v := ?v2) rfl (by kernel_rfl) (by kernel_rfl) (by kernel_rfl) (fun _ _ _ h => h) (Or.inl ⟨by rfl, ?hy2⟩) (by assumption) ?rest2
  case hy2 => ((intro w hSw; (try dsimp only at hSw); go_simp) <;> with_reducible rfl)
  case' rest2 => try simp only [List.getElem_toArray, List.getElem_cons_zero, List.getElem_cons_succ, Act.put, List.setIfInBounds_toArray, List.set_cons_zero, List.set_cons_succ]
  refine wpAnyH_take (i := 1) (oi := _) (v := ?v3) rfl (by kernel_rfl) (by kernel_rfl) (by kernel_rfl) (fun _ _ _ h => h) (Or.inl ⟨by rfl, ?hy3⟩) (by assumption) ?rest3
  case hy3 => ((intro w hSw; (try dsimp only at hSw); go_simp) <;> with_reducible rfl)
  case' rest3 => try simp only [List.getElem_toArray, List.getElem_cons_zero, List.getElem_cons_succ, Act.put, List.setIfInBounds_toArray, List.set_cons_zero, List.set_cons_succ]
  refine wpAnyH_take (i := 2) (oi := _) (v := ?v4) rfl (by kernel_rfl) (by kernel_rfl) (by kernel_rfl) (fun _ _ _ h => h) (Or.inl ⟨by rfl, ?hy4⟩) (by assumption) ?rest4
  case hy4 => ((intro w hSw; (try dsimp only at hSw); go_simp) <;> with_reducible rfl)
  case' rest4 => try simp only [List.getElem_toArray, List.getElem_cons_zero, List.getElem_cons_succ, Act.put, List.setIfInBounds_toArray, List.set_cons_zero, List.set_cons_succ]
  refine wpAnyH_take (i := 3) (oi := _) (v := ?v5) rfl (by kernel_rfl) (by kernel_rfl) (by kernel_rfl) (fun _ _ _ h => h) (Or.inl ⟨by rfl, ?hy5⟩) (by assumption) ?rest5
  case hy5 => ((intro w hSw; (try dsimp only at hSw); go_simp) <;> with_reducible rfl)
  case' rest5 => try simp only [List.getElem_toArray, List.getElem_cons_zero, List.getElem_cons_succ, Act.put, List.setIfInBounds_toArray, List.set_cons_zero, List.set_cons_succ]
  refine wpAnyH_take (i := 4) (oi := _) (v := ?v6) rfl (by kernel_rfl) (by kernel_rfl) (by kernel_rfl) (fun _ _ _ h => h) (Or.inl ⟨by rfl, ?hy6⟩) (by assumption) ?rest6
  case hy6 => ((intro w hSw; (try dsimp only at hSw); go_simp) <;> with_reducible rfl)
  case' rest6 => try simp only [List.getElem_toArray, List.getElem_cons_zero, List.getElem_cons_succ, Act.put, List.setIfInBounds_toArray, List.set_cons_zero, List.set_cons_succ]
  refine wpAnyH_take (i := 5) (oi := _) (v := ?v7) rfl (by kernel_rfl) (by kernel_rfl) (by kernel_rfl) (fun _ _ _ h => h) (Or.inl ⟨by rfl, ?hy7⟩) (by assumption) ?rest7
  case hy7 => ((intro w hSw; (try dsimp only at hSw); go_simp) <;> with_reducible rfl)
  case' rest7 => try simp only [List.getElem_toArray, List.getElem_cons_zero, List.getElem_cons_succ, Act.put, List.setIfInBounds_toArray, List.set_cons_zero, List.set_cons_succ]
  refine wpAnyH_ready (rs := [6]) (by kernel_rfl) (by simp) ?_
  refine AllReadyH.cons (o := _) rfl (fun K hK => ?_) AllReadyH.nil
  go_simp
  refine (seg_answerN ps pd S Gs code _ HC.out.sv.drew).mono ?_
  rintro e w3 ⟨As, ns, cs, rfl, hm3, hS3, ho3⟩
  dsimp only
  replace ho3 := only_undrew' ho3
  have hC3 := (HC.out.prog (Zn := fun _ => False) ho3 hS3 (fun q h => ⟨.inl h, fun h => h⟩) (fun q h => h.elim) (fun q h => h.elim)).mono (Z' := fun _ => False) (fun q h => h.elim)
  have HC3 := hide hC3
  have HM3 := hide hm3
  have HO3 := hide ho3
  have HQ3 := hide (blk_only HQ.out ho3 hpo.2.1)
  have q2 : w3.cell? ⟨pp, 2, none⟩ = some (.pointer (some ⟨ps, 0, none⟩)) := hC3.pb.cell 2 rfl
  have q3 : w3.cell? ⟨pp, 3, none⟩ = some (.pointer (some ⟨pr, 0, none⟩)) := hC3.pb.cell 3 rfl
  have q15 : w3.cell? ⟨w.heap.size, 15, none⟩ = some (.int .u32 (code : Nat)) := HQ3.out.cell 15 rfl
  have zp3 := hC3.pb.lt
  have zq3 := HQ3.out.lt
  have hbN3 : Below N w w3 := HBN.out.trans (ho3.below (by have := HC.out.nn.1; omega) (fun q e => by rw [e]; exact HC.out.nn.2.1))
  have HBN3 := hide hbN3
  clear hm3 hS3 ho3 hC3 hbN3
  refine hK.out _ _ ?hS10 (fun hHeld => ?rest10)
  case hS10 => ((try dsimp only); (exact ⟨q2, q15⟩))
  case' rest10 => (clear hK K; try simp only [List.getElem_toArray, List.getElem_cons_zero, List.getElem_cons_succ, Act.put, List.setIfInBounds_toArray, List.set_cons_zero, List.set_cons_succ])
  refine wpAnyH_take (i := 7) (oi := _) (v := ?v11) rfl (by kernel_rfl) (by kernel_rfl) (by kernel_rfl) (fun _ _ _ h => h) (Or.inl ⟨by rfl, ?hy11⟩) (by assumption) ?rest11
  case hy11 => ((intro w hSw; (try dsimp only at hSw); go_simp) <;> with_reducible rfl)
  case' rest11 => try simp only [List.getElem_toArray, List.getElem_cons_zero, List.getElem_cons_succ, Act.put, List.setIfInBounds_toArray, List.set_cons_zero, List.set_cons_succ]
  refine wpAnyH_done (by kernel_rfl) ?_ _
  have hEnd := hHeld.2
  repeat (clear hHeld)
  clear pb_c0 pb_c1 pb_c2 pb_c3 pb_c4 pb_c5 pb_c6 pb_f
  clear oq_c0 oq_c1 oq_c2 oq_c3 oq_c4 oq_c5 oq_c6 oq_c7 oq_c8 oq_c9 oq_c10 oq_c11 oq_c12 oq_c13 oq_c14 oq_c15 oq_f
  clear pb oq p2 o15
  go_upto_region 24 with fail
  refine wp_region_held_drew (S := (fun w' => w'.cell? ⟨pp, 3, none⟩ = some (.pointer (some ⟨pr, 0, none⟩)) ∧ w'.cell? ⟨w.heap.size, 15, none⟩ = some (.int .u32 (code : Nat)))) (by kernel_rfl) ?hS13 (fun hHeld => ?rest13)
  case hS13 => ((try dsimp only); (exact ⟨q3, q15⟩))
  case' rest13 => skip
  refine wpAnyH_take (i := 0) (oi := _) (v := ?v14) rfl (by kernel_rfl) (by kernel_rfl) (by kernel_rfl) (fun _ _ _ h => h) (Or.inl ⟨by rfl, ?hy14⟩) (by assumption) ?rest14
  case hy14 => ((intro w hSw; (try dsimp only at hSw); go_simp) <;> with_reducible rfl)
  case' rest14 => try simp only [List.getElem_toArray, List.getElem_cons_zero, List.getElem_cons_succ, Act.put, List.setIfInBounds_toArray, List.set_cons_zero, List.set_cons_succ]
  refine wpAnyH_take (i := 1) (oi := _) (v := ?v15) rfl (by kernel_rfl) (by kernel_rfl) (by kernel_rfl) (fun _ _ _ h => h) (Or.inl ⟨by rfl, ?hy15⟩) (by assumption) ?rest15
  case hy15 => ((intro w hSw; (try dsimp only at hSw); go_simp) <;> with_reducible rfl)
  case' rest15 => try simp only [List.getElem_toArray, List.getElem_cons_zero, List.getElem_cons_succ, Act.put, List.setIfInBounds_toArray, List.set_cons_zero, List.set_cons_succ]
  refine wpAnyH_take (i := 2) (oi := _) (v := ?v16) rfl (by kernel_rfl) (by kernel_rfl) (by kernel_rfl) (fun _ _ _ h => h) (Or.inl ⟨by rfl, ?hy16⟩) (by assumption) ?rest16
  case hy16 => ((intro w hSw; (try dsimp only at hSw); go_simp) <;> with_reducible rfl)
  case' rest16 => try simp only [List.getElem_toArray, List.getElem_cons_zero, List.getElem_cons_succ, Act.put, List.setIfInBounds_toArray, List.set_cons_zero, List.set_cons_succ]
  refine wpAnyH_take (i := 3) (oi := _) (v := ?v17) rfl (by kernel_rfl) (by kernel_rfl) (by kernel_rfl) (fun _ _ _ h => h) (Or.inl ⟨by rfl, ?hy17⟩) (by assumption) ?rest17
  case hy17 => ((intro w hSw; (try dsimp only at hSw); go_simp) <;> with_reducible rfl)
  case' rest17 => try simp only [List.getElem_toArray, List.getElem_cons_zero, List.getElem_cons_succ, Act.put, List.setIfInBounds_toArray, List.set_cons_zero, List.set_cons_succ]
  refine wpAnyH_take (i := 4) (oi := _) (v := ?v18) rfl (by kernel_rfl) (by kernel_rfl) (by kernel_rfl) (fun _ _ _ h => h) (Or.inl ⟨by rfl, ?hy18⟩) (by assumption) ?rest18
  case hy18 => ((intro w hSw; (try dsimp only at hSw); go_simp) <;> with_reducible rfl)
  case' rest18 => try simp only [List.getElem_toArray, List.getElem_cons_zero, List.getElem_cons_succ, Act.put, List.setIfInBounds_toArray, List.set_cons_zero, List.set_cons_succ]
  refine wpAnyH_take (i := 5) (oi := _) (v := ?v19) rfl (by kernel_rfl) (by kernel_rfl) (by kernel_rfl) (fun _ _ _ h => h) (Or.inl ⟨by rfl, ?hy19⟩) (by assumption) ?rest19
  case hy19 => ((intro w hSw; (try dsimp only at hSw); go_simp) <;> with_reducible rfl)
  case' rest19 => try simp only [List.getElem_toArray, List.getElem_cons_zero, List.getElem_cons_succ, Act.put, List.setIfInBounds_toArray, List.set_cons_zero, List.set_cons_succ]
  refine wpAnyH_ready (rs := [6]) (by kernel_rfl) (by simp) ?_
  refine AllReadyH.cons (o := _) rfl (fun K hK => ?_) AllReadyH.nil
  go_simp
  refine (rsg_answerN pr pt S (fun q => Gr q ∧ q < W.heap.size) code _ HC3.out.rv.drew).mono ?_
  rintro e w5 ⟨Bs, nbs, cbs, rfl, hm5, hS5, ho5⟩
  dsimp only
  replace ho5 := only_undrew' ho5
  have hC5 := HC3.out.refc ho5 hS5 (fun q h => .inl h) (fun q h => h.elim)
  have r3 : w5.cell? ⟨pp, 3, none⟩ = some (.pointer (some ⟨pr, 0, none⟩)) := hC5.pb.cell 3 rfl
  have r15 : w5.cell? ⟨w.heap.size, 15, none⟩ = some (.int .u32 (code : Nat)) := (blk_only HQ3.out ho5 hpo.2.2).cell 15 rfl
  have hbN5 : Below N w w5 := HBN3.out.trans (ho5.below (by have := HC3.out.nn.1; omega) (fun q e => by rw [e]; exact HC3.out.nn.2.2))
  have HT : Hid (TailS N L pp pd pt ps pr w As ns cs Bs nbs cbs w5) := hide (tail_mk hbN5 (by have := hC5.pb.lt; have := hC5.nn.1; omega) ⟨V, _, lix, lsub, lb, _, _, _, Al, cl, hC5, wf_answer HWF.out, HVP.out⟩ HM3.out (fun g e => by
    have HMM := HM3.out
    rcases HMM with ⟨_, h, _⟩ | ⟨M', g', _, h, _, _, hg, hBm, _⟩
    · rw [h] at e; cases e
    · rw [h] at e
      injection e with e
      injection e with e
      subst e
      have hrl := HC.out.rv
      obtain ⟨R0, A1, n1, c1, _, hrb, _⟩ := hrl
      have z1 := hrb.lt
      have hg : W.heap.size ≤ g' := hg
      exact ho5.block g' hBm.lt (by omega)) hm5)
  have HT2 := hide HT.out.drew
  clear hm5 hS5 ho5 hC5 hbN5
  refine hK.out _ _ ?hS22 (fun hHeld => ?rest22)
  case hS22 => ((try dsimp only); (exact ⟨r3, r15⟩))
  case' rest22 => (clear hK K; try simp only [List.getElem_toArray, List.getElem_cons_zero, List.getElem_cons_succ, Act.put, List.setIfInBounds_toArray, List.set_cons_zero, List.set_cons_succ])
  refine wpAnyH_take (i := 7) (oi := _) (v := ?v23) rfl (by kernel_rfl) (by kernel_rfl) (by kernel_rfl) (fun _ _ _ h => h) (Or.inl ⟨by rfl, ?hy23⟩) (by assumption) ?rest23
  case hy23 => ((intro w hSw; (try dsimp only at hSw); go_simp) <;> with_reducible rfl)
  case' rest23 => try simp only [List.getElem_toArray, List.getElem_cons_zero, List.getElem_cons_succ, Act.put, List.setIfInBounds_toArray, List.set_cons_zero, List.set_cons_succ]
  refine wpAnyH_done (by kernel_rfl) ?_ _
  have hEnd := hHeld.2
  repeat (clear hHeld)
  go_upto_region 28 with fail
  refine wp_gen (P := TailS N L pp pd pt ps pr w As ns cs Bs nbs cbs) HT.out (fun W9 hW9 => ?_)
  clear HT
  obtain ⟨hb9, hN9, hW9⟩ := hW9
  rcases hW9 with ⟨rfl, rfl, rfl, rfl, rfl, rfl, hP9⟩ | ⟨M9, g9, A9, n9, c9, g9b, A9b, n9b, c9b, rfl, rfl, rfl, rfl, rfl, rfl, hM9, hO9, hl9, hM9b, hn9b, hs9b, hP9⟩
  · have HP9 := hide hP9
    clear hP9
    go_wp2_with fail
    refine (taken_none _).mono ?_
    rintro e wa ⟨rfl, hwa⟩
    subst hwa
    go_wp2_with fail
    refine (rsames_none _).mono ?_
    rintro e wa ⟨rfl, hwa⟩
    subst hwa
    go_wp2_with fail
    go_loopw [11] (fun s11 wx => s11 = .int .i64 0 ∧ W9 = wx) (fun _ _ => 0)
    case atStart => exact ⟨rfl, rfl⟩
    case round =>
      obtain ⟨rfl, hwa⟩ := hrel
      subst hwa
      go_wp2_with fail
      go_ret
      exact (⟨rfl, HP9.out, hb9⟩ : DoesE N L pp pd pt ps pr w _ _)
  · have HP9 := hide hP9
    have HO9 := hide hO9
    have HM9 := hide hM9
    have HM9b := hide hM9b
    have HS9b := hide (And.intro hn9b hs9b)
    clear hP9 hO9 hM9 hM9b hn9b hs9b
    go_wp2_with fail
    refine (taken_one g9 M9 A9 n9 c9 _ HM9.out).mono ?_
    rintro e wa ⟨ga, ca, rfl, ⟨hOa, zga⟩, hba⟩
    have HOa := hide hOa
    clear hOa
    go_wp2_with fail
    refine (rsames_one ga g9b M9 A9 A9b n9 c9 n9b c9b ca _ HOa.out zga (HM9b.out.below hba HM9b.out.lt) HO9.out.hn HS9b.out.1 (HO9.out.sl.below hba) (HS9b.out.2.below hba)).mono ?_
    rintro e wb ⟨rfl, hbb⟩
    have hbab := below_step hbb hba
    have HBAB := hide hbab
    clear hba hbb hbab
    go_wp2_with fail
    go_loopw [11] (fun s11 wx => (s11 = .int .i64 0 ∧ wb = wx) ∨ (s11 = .int .i64 1 ∧ Hid (PlayE N L pp pd pt ps pr wx) ∧ Below N w wx)) (fun s11 _ => 1 - (intOf s11).toNat)
    case atStart => exact .inl ⟨rfl, rfl⟩
    case round =>
      rcases hrel with ⟨rfl, hwx⟩ | ⟨rfl, HPx, hbx⟩
      · subst hwx
        have hMx := HM9.out.below HBAB.out HM9.out.lt
        have zMx := hMx.lt
        have hn9l : n9 ≤ 35184372088832 := by have := HO9.out.hn; omega
        unfold msV at hMx
        obtain ⟨hMx_c0, hMx_c1, hMx_c2, hMx_c3, hMx_c4, hMx_c5, hMx_c6, hMx_c7, hMx_c8, hMx_c9, hMx_c10, hMx_c11, hMx_c12, hMx_c13⟩ := cel14 hMx
        have hMx_f := hMx.frozen
        go_wp2_with fail
        refine (spoil_any A9 n9 c9 N M9.data _ hn9l (HO9.out.below HBAB.out).own (Nat.le_trans hN9 HBAB.out.size)).mono ?_
        rintro e wc ⟨rfl, hgc⟩
        have hoc : Only (fun q => A9 = some ⟨q, 0, none⟩) wb wc := Only.of_grown hgc (fun q hq => by
          rcases HO9.out.own.shape with ⟨hx, _, _⟩ | ⟨q', hx, _, _⟩
          · rw [hx] at hq; simp [Value.ownBlock] at hq
          · rw [hx] at hq ⊢
            simp [Value.ownBlock] at hq
            subst hq
            rfl)
        have ho9 : Only (fun q => A9 = some ⟨q, 0, none⟩) W9 wc := (Only.of_below HBAB.out).trans hoc (fun _ _ h => h)
        have HPc := hide (HP9.out wc ho9)
        have hbc : Below N w wc := hb9.trans (ho9.below hN9 (fun q hq => by
          have := HO9.out.own.fin q hq
          exact this.1))
        go_wp2_with fail
        go_roundw
        case rel => exact .inr ⟨rfl, HPc, hbc⟩
        case measure => simp [intOf]
      · go_wp2_with fail
        go_ret
        exact (⟨rfl, HPx.out, hbx⟩ : DoesE N L pp pd pt ps pr w _ _)
theorem does_3 {N : Nat} {L : List Ent} {pp pd pt ps pr : Nat} (M : Ms) (A3 : Option Addr) (m3 c3 code : Nat) (w : World) (h : PlayE N L pp pd pt ps pr w) (hs : SortedE L) (hL : L.length ≤ 1000) :
    Calls Tryz.prog 12 #[.pointer (some ⟨pp, 0, none⟩), .agg (opV 3 M A3 m3 c3 code)] w (DoesE N L pp pd pt ps pr w) := by
  obtain ⟨V, S, lix, lsub, lb, X0, Gs0, Gr0, Al, cl, hC0, hwf, hvp⟩ := h
  have hbw := below_alloc (Below.refl w.heap.size w) (.cells (opV 3 M A3 m3 c3 code) 50)
  have hC := hC0.below hbw
  have hpb0 := hC0.pb.lt
  have hNw : N ≤ w.heap.size := by have := hC0.nn.1; omega
  have hbN : Below N w (w.alloc (.cells (opV 3 M A3 m3 c3 code) 50)) := hbw.mono hNw
  have hq := Blk.new w 50 (opV 3 M A3 m3 c3 code)
  obtain ⟨Gs, hGs⟩ : ∃ Gs, Gs = (fun q => Gs0 q ∧ q < w.heap.size) := ⟨_, rfl⟩
  obtain ⟨Gr, hGr⟩ : ∃ Gr, Gr = (fun q => Gr0 q ∧ q < w.heap.size) := ⟨_, rfl⟩
  rw [← hGs, ← hGr] at hC
  have HS := hide hs
  have HL := hide hL
  have HWF := hide hwf
  have HVP := hide hvp
  have hpo : w.heap.size ≠ pp ∧ w.heap.size ≠ ps ∧ w.heap.size ≠ pr := by
    obtain ⟨A0, n0, c0, hsb⟩ := hC0.sv.blk
    obtain ⟨R0, A1, n1, c1, _, hrb, _⟩ := hC0.rv
    have h1 := hsb.lt
    have h2 := hrb.lt
    exact ⟨by omega, by omega, by omega⟩
  have HH : Hid (PlayC (fun _ => False) N L pp pd pt ps pr V S S lix lsub lb X0 Gs Gr Al cl _ ∧ Blk _ w.heap.size 50 (opV 3 M A3 m3 c3 code) ∧ Below N w _) := hide ⟨hC, hq, hbN⟩
  clear hC hC0 hq hbN hbw hs hL hwf hvp hpb0 hGs hGr
  unfold opV at HH
  unfold opV
  go_enter Tryz.func12, Tryz.ntmps12
  go_upto_region 26 with fail
  refine wp_gen (P := fun W => PlayC (fun _ => False) N L pp pd pt ps pr V S S lix lsub lb X0 Gs Gr Al cl W ∧ Blk W w.heap.size 50 (opV 3 M A3 m3 c3 code) ∧ Below N w W) HH.out (fun W hW => ?_)
  clear HH
  obtain ⟨hC, hq, hbN⟩ := hW
  have HC := hide hC
  have HQ := hide hq
  have HBN := hide hbN
  have zp := hC.pb.lt
  have zq := hq.lt
  have pb := hC.pb
  have oq := hq
  unfold opV at oq
  obtain ⟨pb_c0, pb_c1, pb_c2, pb_c3, pb_c4, pb_c5, pb_c6⟩ := cel7 pb
  have pb_f := pb.frozen
  obtain ⟨oq_c0, oq_c1, oq_c2, oq_c3, oq_c4, oq_c5, oq_c6, oq_c7, oq_c8, oq_c9, oq_c10, oq_c11, oq_c12, oq_c13, oq_c14, oq_c15⟩ := cel16 oq
  have oq_f := oq.frozen
  clear hC hq hbN
  have p2 := pb_c2
  have o15 := oq_c15
  refine wp_region_held_drew (S := (fun w' => w'.cell? ⟨pp, 2, none⟩ = some (.pointer (some ⟨ps, 0, none⟩)) ∧ w'.cell? ⟨w.heap.size, 15, none⟩ = some (.int .u32 (code : Nat)))) (by kernel_rfl) ?hS25 (fun hHeld => ?rest25)
  case hS25 => ((try dsimp only); (exact ⟨p2, o15⟩))
  case' rest25 => skip
  refine wpAnyH_take (i := 0) (oi := _) (v := ?v26) rfl (by kernel_rfl) (by kernel_rfl) (by kernel_rfl) (fun _ _ _ h => h) (Or.inl ⟨by rfl, ?hy26⟩) (by assumption) ?rest26
  case hy26 => ((intro w hSw; (try dsimp only at hSw); go_simp) <;> with_reducible rfl)
  case' rest26 => try simp only [List.getElem_toArray, List.getElem_cons_zero, List.getElem_cons_succ, Act.put, List.setIfInBounds_toArray, List.set_cons_zero, List.set_cons_succ]
  refine wpAnyH_take (i := 1) (oi := _) (v := ?v27) rfl (by kernel_rfl) (by kernel_rfl) (by kernel_rfl) (fun _ _ _ h => h) (Or.inl ⟨by rfl, ?hy27⟩) (by assumption) ?rest27
  case hy27 => ((intro w hSw; (try dsimp only at hSw); go_simp) <;> with_reducible rfl)
  case' rest27 => try simp only [List.getElem_toArray, List.getElem_cons_zero, List.getElem_cons_succ, Act.put, List.setIfInBounds_toArray, List.set_cons_zero, List.set_cons_succ]
  refine wpAnyH_take (i := 2) (oi := _) (v := ?v28) rfl (by kernel_rfl) (by kernel_rfl) (by kernel_rfl) (fun _ _ _ h => h) (Or.inl ⟨by rfl, ?hy28⟩) (by assumption) ?rest28
  case hy28 => ((intro w hSw; (try dsimp only at hSw); go_simp) <;> with_reducible rfl)
  case' rest28 => try simp only [List.getElem_toArray, List.getElem_cons_zero, List.getElem_cons_succ, Act.put, List.setIfInBounds_toArray, List.set_cons_zero, List.set_cons_succ]
  refine wpAnyH_take (i := 3) (oi := _) (v := ?v29) rfl (by kernel_rfl) (by kernel_rfl) (by kernel_rfl) (fun _ _ _ h => h) (Or.inl ⟨by rfl, ?hy29⟩) (by assumption) ?rest29
  case hy29 => ((intro w hSw; (try dsimp only at hSw); go_simp) <;> with_reducible rfl)
  case' rest29 => try simp only [List.getElem_toArray, List.getElem_cons_zero, List.getElem_cons_succ, Act.put, List.setIfInBounds_toArray, List.set_cons_zero, List.set_cons_succ]
  refine wpAnyH_take (i := 4) (oi := _) (v := ?v30) rfl (by kernel_rfl) (by kernel_rfl) (by kernel_rfl) (fun _ _ _ h => h) (Or.inl ⟨by rfl, ?hy30⟩) (by assumption) ?rest30
  case hy30 => ((intro w hSw; (try dsimp only at hSw); go_simp) <;> with_reducible rfl)
  case' rest30 => try simp only [List.getElem_toArray, List.getElem_cons_zero, List.getElem_cons_succ, Act.put, List.setIfInBounds_toArray, List.set_cons_zero, List.set_cons_succ]
  refine wpAnyH_take (i := 5) (oi := _) (v := ?v31) rfl (by kernel_rfl) (by kernel_rfl) (by kernel_rfl) (fun _ _ _ h => h) (Or.inl ⟨by rfl, ?hy31⟩) (by assumption) ?rest31
  case hy31 => ((intro w hSw; (try dsimp only at hSw); go_simp) <;> with_reducible rfl)
  case' rest31 => try simp only [List.getElem_toArray, List.getElem_cons_zero, List.getElem_cons_succ, Act.put, List.setIfInBounds_toArray, List.set_cons_zero, List.set_cons_succ]
  refine wpAnyH_ready (rs := [6]) (by kernel_rfl) (by simp) ?_
  refine AllReadyH.cons (o := _) rfl (fun K hK => ?_) AllReadyH.nil
  go_simp
  refine (seg_abortN ps pd S Gs code _ HC.out.sv.drew).mono ?_
  rintro e w3 ⟨As, ns, cs, rfl, hm3, hS3, ho3⟩
  dsimp only
  replace ho3 := only_undrew' ho3
  have hC3 := (HC.out.prog (Zn := fun _ => False) ho3 hS3 (fun q h => ⟨.inl h, fun h => h⟩) (fun q h => h.elim) (fun q h => h.elim)).mono (Z' := fun _ => False) (fun q h => h.elim)
  have HC3 := hide hC3
  have HM3 := hide hm3
  have HO3 := hide ho3
  have HQ3 := hide (blk_only HQ.out ho3 hpo.2.1)
  have q2 : w3.cell? ⟨pp, 2, none⟩ = some (.pointer (some ⟨ps, 0, none⟩)) := hC3.pb.cell 2 rfl
  have q3 : w3.cell? ⟨pp, 3, none⟩ = some (.pointer (some ⟨pr, 0, none⟩)) := hC3.pb.cell 3 rfl
  have q15 : w3.cell? ⟨w.heap.size, 15, none⟩ = some (.int .u32 (code : Nat)) := HQ3.out.cell 15 rfl
  have zp3 := hC3.pb.lt
  have zq3 := HQ3.out.lt
  have hbN3 : Below N w w3 := HBN.out.trans (ho3.below (by have := HC.out.nn.1; omega) (fun q e => by rw [e]; exact HC.out.nn.2.1))
  have HBN3 := hide hbN3
  clear hm3 hS3 ho3 hC3 hbN3
  refine hK.out _ _ ?hS34 (fun hHeld => ?rest34)
  case hS34 => ((try dsimp only); (exact ⟨q2, q15⟩))
  case' rest34 => (clear hK K; try simp only [List.getElem_toArray, List.getElem_cons_zero, List.getElem_cons_succ, Act.put, List.setIfInBounds_toArray, List.set_cons_zero, List.set_cons_succ])
  refine wpAnyH_take (i := 7) (oi := _) (v := ?v35) rfl (by kernel_rfl) (by kernel_rfl) (by kernel_rfl) (fun _ _ _ h => h) (Or.inl ⟨by rfl, ?hy35⟩) (by assumption) ?rest35
  case hy35 => ((intro w hSw; (try dsimp only at hSw); go_simp) <;> with_reducible rfl)
  case' rest35 => try simp only [List.getElem_toArray, List.getElem_cons_zero, List.getElem_cons_succ, Act.put, List.setIfInBounds_toArray, List.set_cons_zero, List.set_cons_succ]
  refine wpAnyH_done (by kernel_rfl) ?_ _
  have hEnd := hHeld.2
  repeat (clear hHeld)
  clear pb_c0 pb_c1 pb_c2 pb_c3 pb_c4 pb_c5 pb_c6 pb_f
  clear oq_c0 oq_c1 oq_c2 oq_c3 oq_c4 oq_c5 oq_c6 oq_c7 oq_c8 oq_c9 oq_c10 oq_c11 oq_c12 oq_c13 oq_c14 oq_c15 oq_f
  clear pb oq p2 o15
  go_upto_region 27 with fail
  refine wp_region_held_drew (S := (fun w' => w'.cell? ⟨pp, 3, none⟩ = some (.pointer (some ⟨pr, 0, none⟩)) ∧ w'.cell? ⟨w.heap.size, 15, none⟩ = some (.int .u32 (code : Nat)))) (by kernel_rfl) ?hS37 (fun hHeld => ?rest37)
  case hS37 => ((try dsimp only); (exact ⟨q3, q15⟩))
  case' rest37 => skip
  refine wpAnyH_take (i := 0) (oi := _) (v := ?v38) rfl (by kernel_rfl) (by kernel_rfl) (by kernel_rfl) (fun _ _ _ h => h) (Or.inl ⟨by rfl, ?hy38⟩) (by assumption) ?rest38
  case hy38 => ((intro w hSw; (try dsimp only at hSw); go_simp) <;> with_reducible rfl)
  case' rest38 => try simp only [List.getElem_toArray, List.getElem_cons_zero, List.getElem_cons_succ, Act.put, List.setIfInBounds_toArray, List.set_cons_zero, List.set_cons_succ]
  refine wpAnyH_take (i := 1) (oi := _) (v := ?v39) rfl (by kernel_rfl) (by kernel_rfl) (by kernel_rfl) (fun _ _ _ h => h) (Or.inl ⟨by rfl, ?hy39⟩) (by assumption) ?rest39
  case hy39 => ((intro w hSw; (try dsimp only at hSw); go_simp) <;> with_reducible rfl)
  case' rest39 => try simp only [List.getElem_toArray, List.getElem_cons_zero, List.getElem_cons_succ, Act.put, List.setIfInBounds_toArray, List.set_cons_zero, List.set_cons_succ]
  refine wpAnyH_take (i := 2) (oi := _) (v := ?v40) rfl (by kernel_rfl) (by kernel_rfl) (by kernel_rfl) (fun _ _ _ h => h) (Or.inl ⟨by rfl, ?hy40⟩) (by assumption) ?rest40
  case hy40 => ((intro w hSw; (try dsimp only at hSw); go_simp) <;> with_reducible rfl)
  case' rest40 => try simp only [List.getElem_toArray, List.getElem_cons_zero, List.getElem_cons_succ, Act.put, List.setIfInBounds_toArray, List.set_cons_zero, List.set_cons_succ]
  refine wpAnyH_take (i := 3) (oi := _) (v := ?v41) rfl (by kernel_rfl) (by kernel_rfl) (by kernel_rfl) (fun _ _ _ h => h) (Or.inl ⟨by rfl, ?hy41⟩) (by assumption) ?rest41
  case hy41 => ((intro w hSw; (try dsimp only at hSw); go_simp) <;> with_reducible rfl)
  case' rest41 => try simp only [List.getElem_toArray, List.getElem_cons_zero, List.getElem_cons_succ, Act.put, List.setIfInBounds_toArray, List.set_cons_zero, List.set_cons_succ]
  refine wpAnyH_take (i := 4) (oi := _) (v := ?v42) rfl (by kernel_rfl) (by kernel_rfl) (by kernel_rfl) (fun _ _ _ h => h) (Or.inl ⟨by rfl, ?hy42⟩) (by assumption) ?rest42
  case hy42 => ((intro w hSw; (try dsimp only at hSw); go_simp) <;> with_reducible rfl)
  case' rest42 => try simp only [List.getElem_toArray, List.getElem_cons_zero, List.getElem_cons_succ, Act.put, List.setIfInBounds_toArray, List.set_cons_zero, List.set_cons_succ]
  refine wpAnyH_take (i := 5) (oi := _) (v := ?v43) rfl (by kernel_rfl) (by kernel_rfl) (by kernel_rfl) (fun _ _ _ h => h) (Or.inl ⟨by rfl, ?hy43⟩) (by assumption) ?rest43
  case hy43 => ((intro w hSw; (try dsimp only at hSw); go_simp) <;> with_reducible rfl)
  case' rest43 => try simp only [List.getElem_toArray, List.getElem_cons_zero, List.getElem_cons_succ, Act.put, List.setIfInBounds_toArray, List.set_cons_zero, List.set_cons_succ]
  refine wpAnyH_ready (rs := [6]) (by kernel_rfl) (by simp) ?_
  refine AllReadyH.cons (o := _) rfl (fun K hK => ?_) AllReadyH.nil
  go_simp
  refine (rsg_abortN pr pt S (fun q => Gr q ∧ q < W.heap.size) code _ HC3.out.rv.drew).mono ?_
  rintro e w5 ⟨Bs, nbs, cbs, rfl, hm5, hS5, ho5⟩
  dsimp only
  replace ho5 := only_undrew' ho5
  have hC5 := HC3.out.refc ho5 hS5 (fun q h => .inl h) (fun q h => h.elim)
  have r3 : w5.cell? ⟨pp, 3, none⟩ = some (.pointer (some ⟨pr, 0, none⟩)) := hC5.pb.cell 3 rfl
  have r15 : w5.cell? ⟨w.heap.size, 15, none⟩ = some (.int .u32 (code : Nat)) := (blk_only HQ3.out ho5 hpo.2.2).cell 15 rfl
  have hbN5 : Below N w w5 := HBN3.out.trans (ho5.below (by have := HC3.out.nn.1; omega) (fun q e => by rw [e]; exact HC3.out.nn.2.2))
  have HT : Hid (TailS N L pp pd pt ps pr w As ns cs Bs nbs cbs w5) := hide (tail_mk hbN5 (by have := hC5.pb.lt; have := hC5.nn.1; omega) ⟨V, _, lix, lsub, lb, _, _, _, Al, cl, hC5, wf_abort, HVP.out⟩ HM3.out (fun g e => by
    have HMM := HM3.out
    rcases HMM with ⟨_, h, _⟩ | ⟨M', g', _, h, _, _, hg, hBm, _⟩
    · rw [h] at e; cases e
    · rw [h] at e
      injection e with e
      injection e with e
      subst e
      have hrl := HC.out.rv
      obtain ⟨R0, A1, n1, c1, _, hrb, _⟩ := hrl
      have z1 := hrb.lt
      have hg : W.heap.size ≤ g' := hg
      exact ho5.block g' hBm.lt (by omega)) hm5)
  have HT2 := hide HT.out.drew
  clear hm5 hS5 ho5 hC5 hbN5
  refine hK.out _ _ ?hS46 (fun hHeld => ?rest46)
  case hS46 => ((try dsimp only); (exact ⟨r3, r15⟩))
  case' rest46 => (clear hK K; try simp only [List.getElem_toArray, List.getElem_cons_zero, List.getElem_cons_succ, Act.put, List.setIfInBounds_toArray, List.set_cons_zero, List.set_cons_succ])
  refine wpAnyH_take (i := 7) (oi := _) (v := ?v47) rfl (by kernel_rfl) (by kernel_rfl) (by kernel_rfl) (fun _ _ _ h => h) (Or.inl ⟨by rfl, ?hy47⟩) (by assumption) ?rest47
  case hy47 => ((intro w hSw; (try dsimp only at hSw); go_simp) <;> with_reducible rfl)
  case' rest47 => try simp only [List.getElem_toArray, List.getElem_cons_zero, List.getElem_cons_succ, Act.put, List.setIfInBounds_toArray, List.set_cons_zero, List.set_cons_succ]
  refine wpAnyH_done (by kernel_rfl) ?_ _
  have hEnd := hHeld.2
  repeat (clear hHeld)
  go_upto_region 28 with fail
  refine wp_gen (P := TailS N L pp pd pt ps pr w As ns cs Bs nbs cbs) HT.out (fun W9 hW9 => ?_)
  clear HT
  obtain ⟨hb9, hN9, hW9⟩ := hW9
  rcases hW9 with ⟨rfl, rfl, rfl, rfl, rfl, rfl, hP9⟩ | ⟨M9, g9, A9, n9, c9, g9b, A9b, n9b, c9b, rfl, rfl, rfl, rfl, rfl, rfl, hM9, hO9, hl9, hM9b, hn9b, hs9b, hP9⟩
  · have HP9 := hide hP9
    clear hP9
    go_wp2_with fail
    refine (taken_none _).mono ?_
    rintro e wa ⟨rfl, hwa⟩
    subst hwa
    go_wp2_with fail
    refine (rsames_none _).mono ?_
    rintro e wa ⟨rfl, hwa⟩
    subst hwa
    go_wp2_with fail
    go_loopw [11] (fun s11 wx => s11 = .int .i64 0 ∧ W9 = wx) (fun _ _ => 0)
    case atStart => exact ⟨rfl, rfl⟩
    case round =>
      obtain ⟨rfl, hwa⟩ := hrel
      subst hwa
      go_wp2_with fail
      go_ret
      exact (⟨rfl, HP9.out, hb9⟩ : DoesE N L pp pd pt ps pr w _ _)
  · have HP9 := hide hP9
    have HO9 := hide hO9
    have HM9 := hide hM9
    have HM9b := hide hM9b
    have HS9b := hide (And.intro hn9b hs9b)
    clear hP9 hO9 hM9 hM9b hn9b hs9b
    go_wp2_with fail
    refine (taken_one g9 M9 A9 n9 c9 _ HM9.out).mono ?_
    rintro e wa ⟨ga, ca, rfl, ⟨hOa, zga⟩, hba⟩
    have HOa := hide hOa
    clear hOa
    go_wp2_with fail
    refine (rsames_one ga g9b M9 A9 A9b n9 c9 n9b c9b ca _ HOa.out zga (HM9b.out.below hba HM9b.out.lt) HO9.out.hn HS9b.out.1 (HO9.out.sl.below hba) (HS9b.out.2.below hba)).mono ?_
    rintro e wb ⟨rfl, hbb⟩
    have hbab := below_step hbb hba
    have HBAB := hide hbab
    clear hba hbb hbab
    go_wp2_with fail
    go_loopw [11] (fun s11 wx => (s11 = .int .i64 0 ∧ wb = wx) ∨ (s11 = .int .i64 1 ∧ Hid (PlayE N L pp pd pt ps pr wx) ∧ Below N w wx)) (fun s11 _ => 1 - (intOf s11).toNat)
    case atStart => exact .inl ⟨rfl, rfl⟩
    case round =>
      rcases hrel with ⟨rfl, hwx⟩ | ⟨rfl, HPx, hbx⟩
      · subst hwx
        have hMx := HM9.out.below HBAB.out HM9.out.lt
        have zMx := hMx.lt
        have hn9l : n9 ≤ 35184372088832 := by have := HO9.out.hn; omega
        unfold msV at hMx
        obtain ⟨hMx_c0, hMx_c1, hMx_c2, hMx_c3, hMx_c4, hMx_c5, hMx_c6, hMx_c7, hMx_c8, hMx_c9, hMx_c10, hMx_c11, hMx_c12, hMx_c13⟩ := cel14 hMx
        have hMx_f := hMx.frozen
        go_wp2_with fail
        refine (spoil_any A9 n9 c9 N M9.data _ hn9l (HO9.out.below HBAB.out).own (Nat.le_trans hN9 HBAB.out.size)).mono ?_
        rintro e wc ⟨rfl, hgc⟩
        have hoc : Only (fun q => A9 = some ⟨q, 0, none⟩) wb wc := Only.of_grown hgc (fun q hq => by
          rcases HO9.out.own.shape with ⟨hx, _, _⟩ | ⟨q', hx, _, _⟩
          · rw [hx] at hq; simp [Value.ownBlock] at hq
          · rw [hx] at hq ⊢
            simp [Value.ownBlock] at hq
            subst hq
            rfl)
        have ho9 : Only (fun q => A9 = some ⟨q, 0, none⟩) W9 wc := (Only.of_below HBAB.out).trans hoc (fun _ _ h => h)
        have HPc := hide (HP9.out wc ho9)
        have hbc : Below N w wc := hb9.trans (ho9.below hN9 (fun q hq => by
          have := HO9.out.own.fin q hq
          exact this.1))
        go_wp2_with fail
        go_roundw
        case rel => exact .inr ⟨rfl, HPc, hbc⟩
        case measure => simp [intOf]
      · go_wp2_with fail
        go_ret
        exact (⟨rfl, HPx.out, hbx⟩ : DoesE N L pp pd pt ps pr w _ _)
theorem does_d {N : Nat} {L : List Ent} {pp pd pt ps pr : Nat} (kind : Int) (M : Ms) (A3 : Option Addr) (m3 c3 code : Nat) (w : World) (h : PlayE N L pp pd pt ps pr w) (hs : SortedE L) (hL : L.length ≤ 1000) (hk0 : kind ≠ 0) (hk1 : kind ≠ 1) (hk2 : kind ≠ 2) (hk3 : kind ≠ 3) :
    Calls Tryz.prog 12 #[.pointer (some ⟨pp, 0, none⟩), .agg (opV kind M A3 m3 c3 code)] w (DoesE N L pp pd pt ps pr w) := by
  obtain ⟨V, S, lix, lsub, lb, X0, Gs0, Gr0, Al, cl, hC0, hwf, hvp⟩ := h
  have hbw := below_alloc (Below.refl w.heap.size w) (.cells (opV kind M A3 m3 c3 code) 50)
  have hC := hC0.below hbw
  have hpb0 := hC0.pb.lt
  have hNw : N ≤ w.heap.size := by have := hC0.nn.1; omega
  have hbN : Below N w (w.alloc (.cells (opV kind M A3 m3 c3 code) 50)) := hbw.mono hNw
  have hq := Blk.new w 50 (opV kind M A3 m3 c3 code)
  obtain ⟨Gs, hGs⟩ : ∃ Gs, Gs = (fun q => Gs0 q ∧ q < w.heap.size) := ⟨_, rfl⟩
  obtain ⟨Gr, hGr⟩ : ∃ Gr, Gr = (fun q => Gr0 q ∧ q < w.heap.size) := ⟨_, rfl⟩
  rw [← hGs, ← hGr] at hC
  have HS := hide hs
  have HL := hide hL
  have HWF := hide hwf
  have HVP := hide hvp
  have hpo : w.heap.size ≠ pp ∧ w.heap.size ≠ ps ∧ w.heap.size ≠ pr := by
    obtain ⟨A0, n0, c0, hsb⟩ := hC0.sv.blk
    obtain ⟨R0, A1, n1, c1, _, hrb, _⟩ := hC0.rv
    have h1 := hsb.lt
    have h2 := hrb.lt
    exact ⟨by omega, by omega, by omega⟩
  have HH : Hid (PlayC (fun _ => False) N L pp pd pt ps pr V S S lix lsub lb X0 Gs Gr Al cl _ ∧ Blk _ w.heap.size 50 (opV kind M A3 m3 c3 code) ∧ Below N w _) := hide ⟨hC, hq, hbN⟩
  clear hC hC0 hq hbN hbw hs hL hwf hvp hpb0 hGs hGr
  unfold opV at HH
  unfold opV
  go_enter Tryz.func12, Tryz.ntmps12
  have hk0b : (kind == 0) = false := by simp [hk0]
  have hk1b : (kind == 1) = false := by simp [hk1]
  have hk2b : (kind == 2) = false := by simp [hk2]
  have hk3b : (kind == 3) = false := by simp [hk3]
  go_upto_region 4 with fail
  refine wp_gen (P := fun W => PlayC (fun _ => False) N L pp pd pt ps pr V S S lix lsub lb X0 Gs Gr Al cl W ∧ Blk W w.heap.size 50 (opV kind M A3 m3 c3 code) ∧ Below N w W) HH.out (fun W hW => ?_)
  clear HH
  obtain ⟨hC, hq, hbN⟩ := hW
  have HC := hide hC
  have HQ := hide hq
  have HBN := hide hbN
  have zp := hC.pb.lt
  have zq := hq.lt
  have pb := hC.pb
  have oq := hq
  unfold opV at oq
  obtain ⟨pb_c0, pb_c1, pb_c2, pb_c3, pb_c4, pb_c5, pb_c6⟩ := cel7 pb
  have pb_f := pb.frozen
  obtain ⟨oq_c0, oq_c1, oq_c2, oq_c3, oq_c4, oq_c5, oq_c6, oq_c7, oq_c8, oq_c9, oq_c10, oq_c11, oq_c12, oq_c13, oq_c14, oq_c15⟩ := cel16 oq
  have oq_f := oq.frozen
  clear hC hq hbN
  go_wp2_with fail
  refine (seg_dropN ps pd S Gs _ HC.out.sv).mono ?_
  rintro e w3 ⟨rfl, hS3, ho3⟩
  have hC3 := (HC.out.prog (Zn := fun _ => False) ho3 hS3 (fun q h => ⟨.inl h, fun h => h⟩) (fun q h => h.elim) (fun q h => h.elim)).mono (Z' := fun _ => False) (fun q h => h.elim)
  have hbN3 : Below N w w3 := HBN.out.trans (ho3.below (by have := HC.out.nn.1; omega) (fun q e => by rw [e]; exact HC.out.nn.2.1))
  have q3 : w3.cell? ⟨pp, 3, none⟩ = some (.pointer (some ⟨pr, 0, none⟩)) := hC3.pb.cell 3 rfl
  have zp3 := hC3.pb.lt
  obtain ⟨R0, A1, n1, c1, _, hrb, _⟩ := id hC3.rv
  have r1 : w3.cell? ⟨pr, 1, none⟩ = some (.int .i64 R0.st) := hrb.cell 1 rfl
  have f1 := hrb.frozen 1
  have zr := hrb.lt
  have hR5 : RV_ (w3.setCell ⟨pr, 1, none⟩ (.int .i64 0)) (fun q => Gr q ∧ q < W.heap.size) pr pt (segIdle S) := rv_idle (R := segIdle R0) (hrb.set_ 1 (.int .i64 0)) rfl rfl
  have ho5 : Only (fun q => q = pr) w3 (w3.setCell ⟨pr, 1, none⟩ (.int .i64 0)) := Only.of_set (F := fun q => q = pr) rfl _
  have hC5 := hC3.refc ho5 hR5 (fun q h => .inl h) (fun q h => h.elim)
  have hbN5 : Below N w (w3.setCell ⟨pr, 1, none⟩ (.int .i64 0)) := hbN3.trans (ho5.below (by have := hC3.nn.1; omega) (fun q e => by rw [e]; exact hC3.nn.2.2))
  have HT : Hid (PlayE N L pp pd pt ps pr (w3.setCell ⟨pr, 1, none⟩ (.int .i64 0)) ∧ Below N w (w3.setCell ⟨pr, 1, none⟩ (.int .i64 0))) := hide ⟨⟨V, segIdle S, lix, lsub, lb, _, _, _, Al, cl, hC5, wf_idle rfl, HVP.out⟩, hbN5⟩
  clear hS3 ho3 hC3 hbN3 hrb hR5 ho5 hC5 hbN5
  clear pb_c0 pb_c1 pb_c2 pb_c3 pb_c4 pb_c5 pb_c6 pb_f
  clear oq_c0 oq_c1 oq_c2 oq_c3 oq_c4 oq_c5 oq_c6 oq_c7 oq_c8 oq_c9 oq_c10 oq_c11 oq_c12 oq_c13 oq_c14 oq_c15 oq_f
  clear pb oq
  go_upto_region 28 with fail
  refine wp_gen (P := fun W => PlayE N L pp pd pt ps pr W ∧ Below N w W) HT.out (fun W9 hW9 => ?_)
  clear HT
  obtain ⟨hP9, hb9⟩ := hW9
  have HP9 := hide hP9
  clear hP9
  go_wp2_with fail
  refine (taken_none _).mono ?_
  rintro e wa ⟨rfl, hwa⟩
  subst hwa
  go_wp2_with fail
  refine (rsames_none _).mono ?_
  rintro e wa ⟨rfl, hwa⟩
  subst hwa
  go_wp2_with fail
  go_loopw [11] (fun s11 wx => s11 = .int .i64 0 ∧ W9 = wx) (fun _ _ => 0)
  case atStart => exact ⟨rfl, rfl⟩
  case round =>
    obtain ⟨rfl, hwa⟩ := hrel
    subst hwa
    go_wp2_with fail
    go_ret
    exact (⟨rfl, HP9.out, hb9⟩ : DoesE N L pp pd pt ps pr w _ _)
theorem does_1 {N : Nat} {L : List Ent} {pp pd pt ps pr : Nat} (M : Ms) (A3 : Option Addr) (m3 c3 code : Nat) (w : World) (h : PlayE N L pp pd pt ps pr w) (hs : SortedE L) (hL : L.length ≤ 1000) :
    Calls Tryz.prog 12 #[.pointer (some ⟨pp, 0, none⟩), .agg (opV 1 M A3 m3 c3 code)] w (DoesE N L pp pd pt ps pr w) := by
  obtain ⟨V, S, lix, lsub, lb, X0, Gs0, Gr0, Al, cl, hC0, hwf, hvp⟩ := h
  have hbw := below_alloc (Below.refl w.heap.size w) (.cells (opV 1 M A3 m3 c3 code) 50)
  have hC := hC0.below hbw
  have hpb0 := hC0.pb.lt
  have hNw : N ≤ w.heap.size := by have := hC0.nn.1; omega
  have hbN : Below N w (w.alloc (.cells (opV 1 M A3 m3 c3 code) 50)) := hbw.mono hNw
  have hq := Blk.new w 50 (opV 1 M A3 m3 c3 code)
  obtain ⟨Gs, hGs⟩ : ∃ Gs, Gs = (fun q => Gs0 q ∧ q < w.heap.size) := ⟨_, rfl⟩
  obtain ⟨Gr, hGr⟩ : ∃ Gr, Gr = (fun q => Gr0 q ∧ q < w.heap.size) := ⟨_, rfl⟩
  rw [← hGs, ← hGr] at hC
  have HS := hide hs
  have HL := hide hL
  have HWF := hide hwf
  have HVP := hide hvp
  have hpo : w.heap.size ≠ pp ∧ w.heap.size ≠ ps ∧ w.heap.size ≠ pr := by
    obtain ⟨A0, n0, c0, hsb⟩ := hC0.sv.blk
    obtain ⟨R0, A1, n1, c1, _, hrb, _⟩ := hC0.rv
    have h1 := hsb.lt
    have h2 := hrb.lt
    exact ⟨by omega, by omega, by omega⟩
  have HH : Hid (PlayC (fun _ => False) N L pp pd pt ps pr V S S lix lsub lb X0 Gs Gr Al cl _ ∧ Blk _ w.heap.size 50 (opV 1 M A3 m3 c3 code) ∧ Below N w _) := hide ⟨hC, hq, hbN⟩
  clear hC hC0 hq hbN hbw hs hL hwf hvp hpb0 hGs hGr
  unfold opV at HH
  unfold opV
  go_enter Tryz.func12, Tryz.ntmps12
  go_upto_region 17 with fail
  refine wp_gen (P := fun W => PlayC (fun _ => False) N L pp pd pt ps pr V S S lix lsub lb X0 Gs Gr Al cl W ∧ Blk W w.heap.size 50 (opV 1 M A3 m3 c3 code) ∧ Below N w W) HH.out (fun W hW => ?_)
  clear HH
  obtain ⟨hC, hq, hbN⟩ := hW
  have HC := hide hC
  have HQ := hide hq
  have HBN := hide hbN
  have zp := hC.pb.lt
  have zq := hq.lt
  have pb := hC.pb
  have oq := hq
  unfold opV at oq
  obtain ⟨pb_c0, pb_c1, pb_c2, pb_c3, pb_c4, pb_c5, pb_c6⟩ := cel7 pb
  have pb_f := pb.frozen
  obtain ⟨oq_c0, oq_c1, oq_c2, oq_c3, oq_c4, oq_c5, oq_c6, oq_c7, oq_c8, oq_c9, oq_c10, oq_c11, oq_c12, oq_c13, oq_c14, oq_c15⟩ := cel16 oq
  have oq_f := oq.frozen
  clear hC hq hbN
  have hgr := HC.out.two.grow (G' := fun q => X0 q ∧ q < W.heap.size) (fun q _ h => h.1)
  obtain ⟨Fd, Fr, gl, n8, cl8, Av, cv, ds, es, Al2, cl2, Av2, cv2, ds2, es2, T⟩ := hgr
  have hn8 : n8 ≤ 1000 := by rw [T.hn]; exact HL.out
  have hlb : lb.length ≤ 35184372088832 := by have := HC.out.le; omega
  obtain ⟨mc, hmc⟩ := mayC_nn L lix lsub lb false
  have HT0 := hide T
  have hXd : ∀ q, Fd q → ¬ X0 q := fun q h k => (T.bd q h).2.2 ⟨k, (T.bd q h).2.1⟩
  have hXr : ∀ q, Fr q → ¬ X0 q := fun q h k => (T.br q h).2.2 ⟨k, (T.br q h).2.1⟩
  have HXD := hide hXd
  have HXR := hide hXr
  have HMC := hide hmc
  clear T hXd hXr hmc
  refine wp_region_held_drew (S := (fun w' => w'.cell? ⟨pp, 0, none⟩ = some (.pointer (some ⟨pd, 0, none⟩)) ∧ w'.cell? ⟨pp, 4, none⟩ = some (.int .i64 lix) ∧ w'.cell? ⟨pp, 5, none⟩ = some (.int .i64 lsub) ∧ w'.cell? ⟨pp, 6, none⟩ = some (.slice Al lb.length cl))) (by kernel_rfl) ?hS49 (fun hHeld => ?rest49)
  case hS49 => ((try dsimp only); (exact ⟨pb_c0, pb_c4, pb_c5, pb_c6⟩))
  case' rest49 => skip
  refine wpAnyH_take (i := 0) (oi := _) (v := ?v50) rfl (by kernel_rfl) (by kernel_rfl) (by kernel_rfl) (fun _ _ _ h => h) (Or.inl ⟨by rfl, ?hy50⟩) (by assumption) ?rest50
  case hy50 => ((intro w hSw; (try dsimp only at hSw); go_simp) <;> with_reducible rfl)
  case' rest50 => try simp only [List.getElem_toArray, List.getElem_cons_zero, List.getElem_cons_succ, Act.put, List.setIfInBounds_toArray, List.set_cons_zero, List.set_cons_succ]
  refine wpAnyH_take (i := 1) (oi := _) (v := ?v51) rfl (by kernel_rfl) (by kernel_rfl) (by kernel_rfl) (fun _ _ _ h => h) (Or.inl ⟨by rfl, ?hy51⟩) (by assumption) ?rest51
  case hy51 => ((intro w hSw; (try dsimp only at hSw); go_simp) <;> with_reducible rfl)
  case' rest51 => try simp only [List.getElem_toArray, List.getElem_cons_zero, List.getElem_cons_succ, Act.put, List.setIfInBounds_toArray, List.set_cons_zero, List.set_cons_succ]
  refine wpAnyH_take (i := 2) (oi := _) (v := ?v52) rfl (by kernel_rfl) (by kernel_rfl) (by kernel_rfl) (fun _ _ _ h => h) (Or.inl ⟨by rfl, ?hy52⟩) (by assumption) ?rest52
  case hy52 => ((intro w hSw; (try dsimp only at hSw); go_simp) <;> with_reducible rfl)
  case' rest52 => try simp only [List.getElem_toArray, List.getElem_cons_zero, List.getElem_cons_succ, Act.put, List.setIfInBounds_toArray, List.set_cons_zero, List.set_cons_succ]
  refine wpAnyH_take (i := 3) (oi := _) (v := ?v53) rfl (by kernel_rfl) (by kernel_rfl) (by kernel_rfl) (fun _ _ _ h => h) (Or.inl ⟨by rfl, ?hy53⟩) (by assumption) ?rest53
  case hy53 => ((intro w hSw; (try dsimp only at hSw); go_simp) <;> with_reducible rfl)
  case' rest53 => try simp only [List.getElem_toArray, List.getElem_cons_zero, List.getElem_cons_succ, Act.put, List.setIfInBounds_toArray, List.set_cons_zero, List.set_cons_succ]
  refine wpAnyH_take (i := 4) (oi := _) (v := ?v54) rfl (by kernel_rfl) (by kernel_rfl) (by kernel_rfl) (fun _ _ _ h => h) (Or.inl ⟨by rfl, ?hy54⟩) (by assumption) ?rest54
  case hy54 => ((intro w hSw; (try dsimp only at hSw); go_simp) <;> with_reducible rfl)
  case' rest54 => try simp only [List.getElem_toArray, List.getElem_cons_zero, List.getElem_cons_succ, Act.put, List.setIfInBounds_toArray, List.set_cons_zero, List.set_cons_succ]
  refine wpAnyH_take (i := 5) (oi := _) (v := ?v55) rfl (by kernel_rfl) (by kernel_rfl) (by kernel_rfl) (fun _ _ _ h => h) (Or.inl ⟨by rfl, ?hy55⟩) (by assumption) ?rest55
  case hy55 => ((intro w hSw; (try dsimp only at hSw); go_simp) <;> with_reducible rfl)
  case' rest55 => try simp only [List.getElem_toArray, List.getElem_cons_zero, List.getElem_cons_succ, Act.put, List.setIfInBounds_toArray, List.set_cons_zero, List.set_cons_succ]
  refine wpAnyH_take (i := 6) (oi := _) (v := ?v56) rfl (by kernel_rfl) (by kernel_rfl) (by kernel_rfl) (fun _ _ _ h => h) (Or.inl ⟨by rfl, ?hy56⟩) (by assumption) ?rest56
  case hy56 => ((intro w hSw; (try dsimp only at hSw); go_simp) <;> with_reducible rfl)
  case' rest56 => try simp only [List.getElem_toArray, List.getElem_cons_zero, List.getElem_cons_succ, Act.put, List.setIfInBounds_toArray, List.set_cons_zero, List.set_cons_succ]
  refine wpAnyH_take (i := 7) (oi := _) (v := ?v57) rfl (by kernel_rfl) (by kernel_rfl) (by kernel_rfl) (fun _ _ _ h => h) (Or.inl ⟨by rfl, ?hy57⟩) (by assumption) ?rest57
  case hy57 => ((intro w hSw; (try dsimp only at hSw); go_simp) <;> with_reducible rfl)
  case' rest57 => try simp only [List.getElem_toArray, List.getElem_cons_zero, List.getElem_cons_succ, Act.put, List.setIfInBounds_toArray, List.set_cons_zero, List.set_cons_succ]
  refine wpAnyH_take (i := 8) (oi := _) (v := ?v58) rfl (by kernel_rfl) (by kernel_rfl) (by kernel_rfl) (fun _ _ _ h => h) (Or.inl ⟨by rfl, ?hy58⟩) (by assumption) ?rest58
  case hy58 => ((intro w hSw; (try dsimp only at hSw); go_simp) <;> with_reducible rfl)
  case' rest58 => try simp only [List.getElem_toArray, List.getElem_cons_zero, List.getElem_cons_succ, Act.put, List.setIfInBounds_toArray, List.set_cons_zero, List.set_cons_succ]
  refine wpAnyH_take (i := 9) (oi := _) (v := ?v59) rfl (by kernel_rfl) (by kernel_rfl) (by kernel_rfl) (fun _ _ _ h => h) (Or.inl ⟨by rfl, ?hy59⟩) (by assumption) ?rest59
  case hy59 => ((intro w hSw; (try dsimp only at hSw); go_simp) <;> with_reducible rfl)
  case' rest59 => try simp only [List.getElem_toArray, List.getElem_cons_zero, List.getElem_cons_succ, Act.put, List.setIfInBounds_toArray, List.set_cons_zero, List.set_cons_succ]
  refine wpAnyH_take (i := 10) (oi := _) (v := ?v60) rfl (by kernel_rfl) (by kernel_rfl) (by kernel_rfl) (fun _ _ _ h => h) (Or.inl ⟨by rfl, ?hy60⟩) (by assumption) ?rest60
  case hy60 => ((intro w hSw; (try dsimp only at hSw); go_simp) <;> with_reducible rfl)
  case' rest60 => try simp only [List.getElem_toArray, List.getElem_cons_zero, List.getElem_cons_succ, Act.put, List.setIfInBounds_toArray, List.set_cons_zero, List.set_cons_succ]
  refine wpAnyH_take (i := 11) (oi := _) (v := ?v61) rfl (by kernel_rfl) (by kernel_rfl) (by kernel_rfl) (fun _ _ _ h => h) (Or.inl ⟨by rfl, ?hy61⟩) (by assumption) ?rest61
  case hy61 => ((intro w hSw; (try dsimp only at hSw); go_simp) <;> with_reducible rfl)
  case' rest61 => try simp only [List.getElem_toArray, List.getElem_cons_zero, List.getElem_cons_succ, Act.put, List.setIfInBounds_toArray, List.set_cons_zero, List.set_cons_succ]
  refine wpAnyH_take (i := 12) (oi := _) (v := ?v62) rfl (by kernel_rfl) (by kernel_rfl) (by kernel_rfl) (fun _ _ _ h => h) (Or.inl ⟨by rfl, ?hy62⟩) (by assumption) ?rest62
  case hy62 => ((intro w hSw; (try dsimp only at hSw); go_simp) <;> with_reducible rfl)
  case' rest62 => try simp only [List.getElem_toArray, List.getElem_cons_zero, List.getElem_cons_succ, Act.put, List.setIfInBounds_toArray, List.set_cons_zero, List.set_cons_succ]
  refine wpAnyH_take (i := 13) (oi := _) (v := ?v63) rfl (by kernel_rfl) (by kernel_rfl) (by kernel_rfl) (fun _ _ _ h => h) (Or.inl ⟨by rfl, ?hy63⟩) (by assumption) ?rest63
  case hy63 => ((intro w hSw; (try dsimp only at hSw); go_simp) <;> with_reducible rfl)
  case' rest63 => try simp only [List.getElem_toArray, List.getElem_cons_zero, List.getElem_cons_succ, Act.put, List.setIfInBounds_toArray, List.set_cons_zero, List.set_cons_succ]
  refine wpAnyH_take (i := 14) (oi := _) (v := ?v64) rfl (by kernel_rfl) (by kernel_rfl) (by kernel_rfl) (fun _ _ _ h => h) (Or.inl ⟨by rfl, ?hy64⟩) (by assumption) ?rest64
  case hy64 => ((intro w hSw; (try dsimp only at hSw); go_simp) <;> with_reducible rfl)
  case' rest64 => try simp only [List.getElem_toArray, List.getElem_cons_zero, List.getElem_cons_succ, Act.put, List.setIfInBounds_toArray, List.set_cons_zero, List.set_cons_succ]
  refine wpAnyH_take (i := 15) (oi := _) (v := ?v65) rfl (by kernel_rfl) (by kernel_rfl) (by kernel_rfl) (fun _ _ _ h => h) (Or.inl ⟨by rfl, ?hy65⟩) (by assumption) ?rest65
  case hy65 => ((intro w hSw; (try dsimp only at hSw); go_simp) <;> with_reducible rfl)
  case' rest65 => try simp only [List.getElem_toArray, List.getElem_cons_zero, List.getElem_cons_succ, Act.put, List.setIfInBounds_toArray, List.set_cons_zero, List.set_cons_succ]
  refine wpAnyH_take (i := 16) (oi := _) (v := ?v66) rfl (by kernel_rfl) (by kernel_rfl) (by kernel_rfl) (fun _ _ _ h => h) (Or.inl ⟨by rfl, ?hy66⟩) (by assumption) ?rest66
  case hy66 => ((intro w hSw; (try dsimp only at hSw); go_simp) <;> with_reducible rfl)
  case' rest66 => try simp only [List.getElem_toArray, List.getElem_cons_zero, List.getElem_cons_succ, Act.put, List.setIfInBounds_toArray, List.set_cons_zero, List.set_cons_succ]
  refine wpAnyH_take (i := 17) (oi := _) (v := ?v67) rfl (by kernel_rfl) (by kernel_rfl) (by kernel_rfl) (fun _ _ _ h => h) (Or.inl ⟨by rfl, ?hy67⟩) (by assumption) ?rest67
  case hy67 => ((intro w hSw; (try dsimp only at hSw); go_simp) <;> with_reducible rfl)
  case' rest67 => try simp only [List.getElem_toArray, List.getElem_cons_zero, List.getElem_cons_succ, Act.put, List.setIfInBounds_toArray, List.set_cons_zero, List.set_cons_succ]
  refine wpAnyH_take (i := 18) (oi := _) (v := ?v68) rfl (by kernel_rfl) (by kernel_rfl) (by kernel_rfl) (fun _ _ _ h => h) (Or.inl ⟨by rfl, ?hy68⟩) (by assumption) ?rest68
  case hy68 => ((intro w hSw; (try dsimp only at hSw); go_simp) <;> with_reducible rfl)
  case' rest68 => try simp only [List.getElem_toArray, List.getElem_cons_zero, List.getElem_cons_succ, Act.put, List.setIfInBounds_toArray, List.set_cons_zero, List.set_cons_succ]
  refine wpAnyH_ready (rs := [19]) (by kernel_rfl) (by simp) ?_
  refine AllReadyH.cons (o := _) rfl (fun K hK => ?_) AllReadyH.nil
  go_simp
  refine (dict_set lix lsub Al lb.length cl lb _ (HT0.out.d.below (Below.drew (Below.refl _ _))) HS.out hn8 rfl HC.out.lc hlb (HC.out.lsl.below (Below.drew (Below.refl _ _)))).mono ?_
  rintro e w3 ⟨V2, es', rfl, hV2, hD2, ho2⟩
  dsimp only
  rw [HMC.out]
  replace ho2 := only_undrew' ho2
  have HB3 := hide (blk_only HC.out.pb ho2 (fun h => HXD.out _ h HC.out.xs.1))
  have g0 : w3.cell? ⟨pp, 0, none⟩ = some (.pointer (some ⟨pd, 0, none⟩)) := HB3.out.cell 0 rfl
  have g1 : w3.cell? ⟨pp, 1, none⟩ = some (.pointer (some ⟨pt, 0, none⟩)) := HB3.out.cell 1 rfl
  have g4 : w3.cell? ⟨pp, 4, none⟩ = some (.int .i64 lix) := HB3.out.cell 4 rfl
  have g5 : w3.cell? ⟨pp, 5, none⟩ = some (.int .i64 lsub) := HB3.out.cell 5 rfl
  have g6 : w3.cell? ⟨pp, 6, none⟩ = some (.slice Al lb.length cl) := HB3.out.cell 6 rfl
  have zp3 := HB3.out.lt
  have HO2 := hide ho2
  have HD2 := hide hD2
  have HSL3 := hide (sl_blk HC.out.lsl (fun ad e => ho2.block _ (HC.out.lal ad e).1 (fun h => HXD.out _ h (HC.out.lal ad e).2.2.2.2.2)))
  have HV2 := hide hV2
  clear ho2 hD2 hV2
  refine hK.out _ _ ?hS71 (fun hHeld => ?rest71)
  case hS71 => ((try dsimp only); (exact ⟨g0, g4, g5, g6⟩))
  case' rest71 => (clear hK K; try simp only [List.getElem_toArray, List.getElem_cons_zero, List.getElem_cons_succ, Act.put, List.setIfInBounds_toArray, List.set_cons_zero, List.set_cons_succ])
  refine wpAnyH_take (i := 20) (oi := _) (v := ?v72) rfl (by kernel_rfl) (by kernel_rfl) (by kernel_rfl) (fun _ _ _ h => h) (Or.inl ⟨by rfl, ?hy72⟩) (by assumption) ?rest72
  case hy72 => ((intro w hSw; (try dsimp only at hSw); go_simp) <;> with_reducible rfl)
  case' rest72 => try simp only [List.getElem_toArray, List.getElem_cons_zero, List.getElem_cons_succ, Act.put, List.setIfInBounds_toArray, List.set_cons_zero, List.set_cons_succ]
  refine wpAnyH_done (by kernel_rfl) ?_ _
  have hEnd := hHeld.2
  repeat (clear hHeld)
  clear pb_c0 pb_c1 pb_c2 pb_c3 pb_c4 pb_c5 pb_c6 pb_f
  clear oq_c0 oq_c1 oq_c2 oq_c3 oq_c4 oq_c5 oq_c6 oq_c7 oq_c8 oq_c9 oq_c10 oq_c11 oq_c12 oq_c13 oq_c14 oq_c15 oq_f
  clear pb oq
  go_upto_region 18 with fail
  refine wp_region_held_drew (S := (fun w' => w'.cell? ⟨pp, 1, none⟩ = some (.pointer (some ⟨pt, 0, none⟩)) ∧ w'.cell? ⟨pp, 4, none⟩ = some (.int .i64 lix) ∧ w'.cell? ⟨pp, 5, none⟩ = some (.int .i64 lsub) ∧ w'.cell? ⟨pp, 6, none⟩ = some (.slice Al lb.length cl))) (by kernel_rfl) ?hS74 (fun hHeld => ?rest74)
  case hS74 => ((try dsimp only); (exact ⟨g1, g4, g5, g6⟩))
  case' rest74 => skip
  refine wpAnyH_take (i := 0) (oi := _) (v := ?v75) rfl (by kernel_rfl) (by kernel_rfl) (by kernel_rfl) (fun _ _ _ h => h) (Or.inl ⟨by rfl, ?hy75⟩) (by assumption) ?rest75
  case hy75 => ((intro w hSw; (try dsimp only at hSw); go_simp) <;> with_reducible rfl)
  case' rest75 => try simp only [List.getElem_toArray, List.getElem_cons_zero, List.getElem_cons_succ, Act.put, List.setIfInBounds_toArray, List.set_cons_zero, List.set_cons_succ]
  refine wpAnyH_take (i := 1) (oi := _) (v := ?v76) rfl (by kernel_rfl) (by kernel_rfl) (by kernel_rfl) (fun _ _ _ h => h) (Or.inl ⟨by rfl, ?hy76⟩) (by assumption) ?rest76
  case hy76 => ((intro w hSw; (try dsimp only at hSw); go_simp) <;> with_reducible rfl)
  case' rest76 => try simp only [List.getElem_toArray, List.getElem_cons_zero, List.getElem_cons_succ, Act.put, List.setIfInBounds_toArray, List.set_cons_zero, List.set_cons_succ]
  refine wpAnyH_take (i := 2) (oi := _) (v := ?v77) rfl (by kernel_rfl) (by kernel_rfl) (by kernel_rfl) (fun _ _ _ h => h) (Or.inl ⟨by rfl, ?hy77⟩) (by assumption) ?rest77
  case hy77 => ((intro w hSw; (try dsimp only at hSw); go_simp) <;> with_reducible rfl)
  case' rest77 => try simp only [List.getElem_toArray, List.getElem_cons_zero, List.getElem_cons_succ, Act.put, List.setIfInBounds_toArray, List.set_cons_zero, List.set_cons_succ]
  refine wpAnyH_take (i := 3) (oi := _) (v := ?v78) rfl (by kernel_rfl) (by kernel_rfl) (by kernel_rfl) (fun _ _ _ h => h) (Or.inl ⟨by rfl, ?hy78⟩) (by assumption) ?rest78
  case hy78 => ((intro w hSw; (try dsimp only at hSw); go_simp) <;> with_reducible rfl)
  case' rest78 => try simp only [List.getElem_toArray, List.getElem_cons_zero, List.getElem_cons_succ, Act.put, List.setIfInBounds_toArray, List.set_cons_zero, List.set_cons_succ]
  refine wpAnyH_take (i := 4) (oi := _) (v := ?v79) rfl (by kernel_rfl) (by kernel_rfl) (by kernel_rfl) (fun _ _ _ h => h) (Or.inl ⟨by rfl, ?hy79⟩) (by assumption) ?rest79
  case hy79 => ((intro w hSw; (try dsimp only at hSw); go_simp) <;> with_reducible rfl)
  case' rest79 => try simp only [List.getElem_toArray, List.getElem_cons_zero, List.getElem_cons_succ, Act.put, List.setIfInBounds_toArray, List.set_cons_zero, List.set_cons_succ]
  refine wpAnyH_take (i := 5) (oi := _) (v := ?v80) rfl (by kernel_rfl) (by kernel_rfl) (by kernel_rfl) (fun _ _ _ h => h) (Or.inl ⟨by rfl, ?hy80⟩) (by assumption) ?rest80
  case hy80 => ((intro w hSw; (try dsimp only at hSw); go_simp) <;> with_reducible rfl)
  case' rest80 => try simp only [List.getElem_toArray, List.getElem_cons_zero, List.getElem_cons_succ, Act.put, List.setIfInBounds_toArray, List.set_cons_zero, List.set_cons_succ]
  refine wpAnyH_take (i := 6) (oi := _) (v := ?v81) rfl (by kernel_rfl) (by kernel_rfl) (by kernel_rfl) (fun _ _ _ h => h) (Or.inl ⟨by rfl, ?hy81⟩) (by assumption) ?rest81
  case hy81 => ((intro w hSw; (try dsimp only at hSw); go_simp) <;> with_reducible rfl)
  case' rest81 => try simp only [List.getElem_toArray, List.getElem_cons_zero, List.getElem_cons_succ, Act.put, List.setIfInBounds_toArray, List.set_cons_zero, List.set_cons_succ]
  refine wpAnyH_take (i := 7) (oi := _) (v := ?v82) rfl (by kernel_rfl) (by kernel_rfl) (by kernel_rfl) (fun _ _ _ h => h) (Or.inl ⟨by rfl, ?hy82⟩) (by assumption) ?rest82
  case hy82 => ((intro w hSw; (try dsimp only at hSw); go_simp) <;> with_reducible rfl)
  case' rest82 => try simp only [List.getElem_toArray, List.getElem_cons_zero, List.getElem_cons_succ, Act.put, List.setIfInBounds_toArray, List.set_cons_zero, List.set_cons_succ]
  refine wpAnyH_take (i := 8) (oi := _) (v := ?v83) rfl (by kernel_rfl) (by kernel_rfl) (by kernel_rfl) (fun _ _ _ h => h) (Or.inl ⟨by rfl, ?hy83⟩) (by assumption) ?rest83
  case hy83 => ((intro w hSw; (try dsimp only at hSw); go_simp) <;> with_reducible rfl)
  case' rest83 => try simp only [List.getElem_toArray, List.getElem_cons_zero, List.getElem_cons_succ, Act.put, List.setIfInBounds_toArray, List.set_cons_zero, List.set_cons_succ]
  refine wpAnyH_take (i := 9) (oi := _) (v := ?v84) rfl (by kernel_rfl) (by kernel_rfl) (by kernel_rfl) (fun _ _ _ h => h) (Or.inl ⟨by rfl, ?hy84⟩) (by assumption) ?rest84
  case hy84 => ((intro w hSw; (try dsimp only at hSw); go_simp) <;> with_reducible rfl)
  case' rest84 => try simp only [List.getElem_toArray, List.getElem_cons_zero, List.getElem_cons_succ, Act.put, List.setIfInBounds_toArray, List.set_cons_zero, List.set_cons_succ]
  refine wpAnyH_take (i := 10) (oi := _) (v := ?v85) rfl (by kernel_rfl) (by kernel_rfl) (by kernel_rfl) (fun _ _ _ h => h) (Or.inl ⟨by rfl, ?hy85⟩) (by assumption) ?rest85
  case hy85 => ((intro w hSw; (try dsimp only at hSw); go_simp) <;> with_reducible rfl)
  case' rest85 => try simp only [List.getElem_toArray, List.getElem_cons_zero, List.getElem_cons_succ, Act.put, List.setIfInBounds_toArray, List.set_cons_zero, List.set_cons_succ]
  refine wpAnyH_take (i := 11) (oi := _) (v := ?v86) rfl (by kernel_rfl) (by kernel_rfl) (by kernel_rfl) (fun _ _ _ h => h) (Or.inl ⟨by rfl, ?hy86⟩) (by assumption) ?rest86
  case hy86 => ((intro w hSw; (try dsimp only at hSw); go_simp) <;> with_reducible rfl)
  case' rest86 => try simp only [List.getElem_toArray, List.getElem_cons_zero, List.getElem_cons_succ, Act.put, List.setIfInBounds_toArray, List.set_cons_zero, List.set_cons_succ]
  refine wpAnyH_take (i := 12) (oi := _) (v := ?v87) rfl (by kernel_rfl) (by kernel_rfl) (by kernel_rfl) (fun _ _ _ h => h) (Or.inl ⟨by rfl, ?hy87⟩) (by assumption) ?rest87
  case hy87 => ((intro w hSw; (try dsimp only at hSw); go_simp) <;> with_reducible rfl)
  case' rest87 => try simp only [List.getElem_toArray, List.getElem_cons_zero, List.getElem_cons_succ, Act.put, List.setIfInBounds_toArray, List.set_cons_zero, List.set_cons_succ]
  refine wpAnyH_take (i := 13) (oi := _) (v := ?v88) rfl (by kernel_rfl) (by kernel_rfl) (by kernel_rfl) (fun _ _ _ h => h) (Or.inl ⟨by rfl, ?hy88⟩) (by assumption) ?rest88
  case hy88 => ((intro w hSw; (try dsimp only at hSw); go_simp) <;> with_reducible rfl)
  case' rest88 => try simp only [List.getElem_toArray, List.getElem_cons_zero, List.getElem_cons_succ, Act.put, List.setIfInBounds_toArray, List.set_cons_zero, List.set_cons_succ]
  refine wpAnyH_take (i := 14) (oi := _) (v := ?v89) rfl (by kernel_rfl) (by kernel_rfl) (by kernel_rfl) (fun _ _ _ h => h) (Or.inl ⟨by rfl, ?hy89⟩) (by assumption) ?rest89
  case hy89 => ((intro w hSw; (try dsimp only at hSw); go_simp) <;> with_reducible rfl)
  case' rest89 => try simp only [List.getElem_toArray, List.getElem_cons_zero, List.getElem_cons_succ, Act.put, List.setIfInBounds_toArray, List.set_cons_zero, List.set_cons_succ]
  refine wpAnyH_take (i := 15) (oi := _) (v := ?v90) rfl (by kernel_rfl) (by kernel_rfl) (by kernel_rfl) (fun _ _ _ h => h) (Or.inl ⟨by rfl, ?hy90⟩) (by assumption) ?rest90
  case hy90 => ((intro w hSw; (try dsimp only at hSw); go_simp) <;> with_reducible rfl)
  case' rest90 => try simp only [List.getElem_toArray, List.getElem_cons_zero, List.getElem_cons_succ, Act.put, List.setIfInBounds_toArray, List.set_cons_zero, List.set_cons_succ]
  refine wpAnyH_take (i := 16) (oi := _) (v := ?v91) rfl (by kernel_rfl) (by kernel_rfl) (by kernel_rfl) (fun _ _ _ h => h) (Or.inl ⟨by rfl, ?hy91⟩) (by assumption) ?rest91
  case hy91 => ((intro w hSw; (try dsimp only at hSw); go_simp) <;> with_reducible rfl)
  case' rest91 => try simp only [List.getElem_toArray, List.getElem_cons_zero, List.getElem_cons_succ, Act.put, List.setIfInBounds_toArray, List.set_cons_zero, List.set_cons_succ]
  refine wpAnyH_take (i := 17) (oi := _) (v := ?v92) rfl (by kernel_rfl) (by kernel_rfl) (by kernel_rfl) (fun _ _ _ h => h) (Or.inl ⟨by rfl, ?hy92⟩) (by assumption) ?rest92
  case hy92 => ((intro w hSw; (try dsimp only at hSw); go_simp) <;> with_reducible rfl)
  case' rest92 => try simp only [List.getElem_toArray, List.getElem_cons_zero, List.getElem_cons_succ, Act.put, List.setIfInBounds_toArray, List.set_cons_zero, List.set_cons_succ]
  refine wpAnyH_take (i := 18) (oi := _) (v := ?v93) rfl (by kernel_rfl) (by kernel_rfl) (by kernel_rfl) (fun _ _ _ h => h) (Or.inl ⟨by rfl, ?hy93⟩) (by assumption) ?rest93
  case hy93 => ((intro w hSw; (try dsimp only at hSw); go_simp) <;> with_reducible rfl)
  case' rest93 => try simp only [List.getElem_toArray, List.getElem_cons_zero, List.getElem_cons_succ, Act.put, List.setIfInBounds_toArray, List.set_cons_zero, List.set_cons_succ]
  refine wpAnyH_take (i := 19) (oi := _) (v := ?v94) rfl (by kernel_rfl) (by kernel_rfl) (by kernel_rfl) (fun _ _ _ h => h) (Or.inl ⟨by rfl, ?hy94⟩) (by assumption) ?rest94
  case hy94 => ((intro w hSw; (try dsimp only at hSw); go_simp) <;> with_reducible rfl)
  case' rest94 => try simp only [List.getElem_toArray, List.getElem_cons_zero, List.getElem_cons_succ, Act.put, List.setIfInBounds_toArray, List.set_cons_zero, List.set_cons_succ]
  refine wpAnyH_ready (rs := [20]) (by kernel_rfl) (by simp) ?_
  refine AllReadyH.cons (o := _) rfl (fun K hK => ?_) AllReadyH.nil
  go_simp
  refine (rdic_set lix lsub Al lb.length cl lb _ ((HT0.out.other HO2.out).below (Below.drew (Below.refl _ _))) hn8 rfl HC.out.lc hlb (HSL3.out.below (Below.drew (Below.refl _ _)))).mono ?_
  rintro e w4 ⟨V3, es3', rfl, hV3, hD3, ho3⟩
  dsimp only
  rw [HMC.out]
  replace ho3 := only_undrew' ho3
  have hV23 : V3 = V2 := hV3.trans HV2.out.symm
  subst hV23
  have hC4 := HC.out.dicts HXD.out HXR.out HO2.out ho3 (HT0.out.both HO2.out HD2.out ho3 hD3 (fun g h => h.2) (by have := HC.out.nn.1; omega)) (fun q h => h.elim)
  have HC4 := hide hC4
  have HVP4 : Hid (ValsP L V3) := hide (by rw [HV2.out]; exact vals_put HS.out HT0.out.d.lenV HVP.out lix lsub lb false)
  have hbN4 : Below N w w4 := HBN.out.trans ((HO2.out.below (by have := HC.out.nn.1; omega) (fun q e => (HT0.out.bd q e).1)).trans (ho3.below (by have := HC.out.nn.1; have := HO2.out.size; omega) (fun q e => (HT0.out.br q e).1)))
  have HBN4 := hide hbN4
  have k4 := hC4.pb
  have j1 : w4.cell? ⟨pp, 1, none⟩ = some (.pointer (some ⟨pt, 0, none⟩)) := k4.cell 1 rfl
  have j4 : w4.cell? ⟨pp, 4, none⟩ = some (.int .i64 lix) := k4.cell 4 rfl
  have j5 : w4.cell? ⟨pp, 5, none⟩ = some (.int .i64 lsub) := k4.cell 5 rfl
  have j6 : w4.cell? ⟨pp, 6, none⟩ = some (.slice Al lb.length cl) := k4.cell 6 rfl
  have j2 : w4.cell? ⟨pp, 2, none⟩ = some (.pointer (some ⟨ps, 0, none⟩)) := k4.cell 2 rfl
  have zp4 := k4.lt
  clear hV3 hD3 ho3 hC4 hbN4 k4
  refine hK.out _ _ ?hS97 (fun hHeld => ?rest97)
  case hS97 => ((try dsimp only); (exact ⟨j1, j4, j5, j6⟩))
  case' rest97 => (clear hK K; try simp only [List.getElem_toArray, List.getElem_cons_zero, List.getElem_cons_succ, Act.put, List.setIfInBounds_toArray, List.set_cons_zero, List.set_cons_succ])
  refine wpAnyH_take (i := 21) (oi := _) (v := ?v98) rfl (by kernel_rfl) (by kernel_rfl) (by kernel_rfl) (fun _ _ _ h => h) (Or.inl ⟨by rfl, ?hy98⟩) (by assumption) ?rest98
  case hy98 => ((intro w hSw; (try dsimp only at hSw); go_simp) <;> with_reducible rfl)
  case' rest98 => try simp only [List.getElem_toArray, List.getElem_cons_zero, List.getElem_cons_succ, Act.put, List.setIfInBounds_toArray, List.set_cons_zero, List.set_cons_succ]
  refine wpAnyH_done (by kernel_rfl) ?_ _
  have hEnd := hHeld.2
  repeat (clear hHeld)
  go_wp2_with fail
  refine (seg_answerN ps pd S _ mc _ HC4.out.sv).mono ?_
  rintro e w5 ⟨As, ns, cs, rfl, hm5, hS5, ho5⟩
  have hC5 := (HC4.out.prog (Zn := fun _ => False) ho5 hS5 (fun q h => ⟨.inl h, fun h => h⟩) (fun q h => h.elim) (fun q h => h.elim)).mono (Z' := fun _ => False) (fun q h => h.elim)
  have HC5 := hide hC5
  have HM5 := hide hm5
  have HBN5 : Hid (Below N w w5) := hide (HBN4.out.trans (ho5.below (by have := HC4.out.nn.1; omega) (fun q e => by rw [e]; exact HC4.out.nn.2.1)))
  have l3 : w5.cell? ⟨pp, 3, none⟩ = some (.pointer (some ⟨pr, 0, none⟩)) := hC5.pb.cell 3 rfl
  have zp5 := hC5.pb.lt
  clear hm5 hS5 ho5 hC5 j1 j2 j4 j5 j6 g0 g1 g4 g5 g6
  go_wp2_with fail
  refine (rsg_answerN pr pt S _ mc _ HC5.out.rv).mono ?_
  rintro e w6 ⟨Bs, nbs, cbs, rfl, hm6, hS6, ho6⟩
  have hC6 := HC5.out.refc ho6 hS6 (fun q h => .inl h) (fun q h => h.elim)
  have hbN6 : Below N w w6 := HBN5.out.trans (ho6.below (by have := HC5.out.nn.1; omega) (fun q e => by rw [e]; exact HC5.out.nn.2.2))
  have HT : Hid (TailS N L pp pd pt ps pr w As ns cs Bs nbs cbs w6) := hide (tail_mk hbN6 (by have := hC6.pb.lt; have := hC6.nn.1; omega) ⟨V3, _, lix, lsub, lb, _, _, _, Al, cl, hC6, wf_answer HWF.out, HVP4.out⟩ HM5.out (fun g e => by
    have HMM := HM5.out
    rcases HMM with ⟨_, h, _⟩ | ⟨M', g', _, h, _, _, hg, hBm, _⟩
    · rw [h] at e; cases e
    · rw [h] at e
      injection e with e
      injection e with e
      subst e
      have hrl := HC4.out.rv
      obtain ⟨R0, A1, n1, c1, _, hrb, _⟩ := hrl
      have z1 := hrb.lt
      exact ho6.block g' hBm.lt (by omega)) hm6)
  have HT2 := hide HT.out.drew
  clear hm6 hS6 ho6 hC6 hbN6
  go_upto_region 28 with fail
  refine wp_gen (P := TailS N L pp pd pt ps pr w As ns cs Bs nbs cbs) HT.out (fun W9 hW9 => ?_)
  clear HT
  obtain ⟨hb9, hN9, hW9⟩ := hW9
  rcases hW9 with ⟨rfl, rfl, rfl, rfl, rfl, rfl, hP9⟩ | ⟨M9, g9, A9, n9, c9, g9b, A9b, n9b, c9b, rfl, rfl, rfl, rfl, rfl, rfl, hM9, hO9, hl9, hM9b, hn9b, hs9b, hP9⟩
  · have HP9 := hide hP9
    clear hP9
    go_wp2_with fail
    refine (taken_none _).mono ?_
    rintro e wa ⟨rfl, hwa⟩
    subst hwa
    go_wp2_with fail
    refine (rsames_none _).mono ?_
    rintro e wa ⟨rfl, hwa⟩
    subst hwa
    go_wp2_with fail
    go_loopw [11] (fun s11 wx => s11 = .int .i64 0 ∧ W9 = wx) (fun _ _ => 0)
    case atStart => exact ⟨rfl, rfl⟩
    case round =>
      obtain ⟨rfl, hwa⟩ := hrel
      subst hwa
      go_wp2_with fail
      go_ret
      exact (⟨rfl, HP9.out, hb9⟩ : DoesE N L pp pd pt ps pr w _ _)
  · have HP9 := hide hP9
    have HO9 := hide hO9
    have HM9 := hide hM9
    have HM9b := hide hM9b
    have HS9b := hide (And.intro hn9b hs9b)
    clear hP9 hO9 hM9 hM9b hn9b hs9b
    go_wp2_with fail
    refine (taken_one g9 M9 A9 n9 c9 _ HM9.out).mono ?_
    rintro e wa ⟨ga, ca, rfl, ⟨hOa, zga⟩, hba⟩
    have HOa := hide hOa
    clear hOa
    go_wp2_with fail
    refine (rsames_one ga g9b M9 A9 A9b n9 c9 n9b c9b ca _ HOa.out zga (HM9b.out.below hba HM9b.out.lt) HO9.out.hn HS9b.out.1 (HO9.out.sl.below hba) (HS9b.out.2.below hba)).mono ?_
    rintro e wb ⟨rfl, hbb⟩
    have hbab := below_step hbb hba
    have HBAB := hide hbab
    clear hba hbb hbab
    go_wp2_with fail
    go_loopw [11] (fun s11 wx => (s11 = .int .i64 0 ∧ wb = wx) ∨ (s11 = .int .i64 1 ∧ Hid (PlayE N L pp pd pt ps pr wx) ∧ Below N w wx)) (fun s11 _ => 1 - (intOf s11).toNat)
    case atStart => exact .inl ⟨rfl, rfl⟩
    case round =>
      rcases hrel with ⟨rfl, hwx⟩ | ⟨rfl, HPx, hbx⟩
      · subst hwx
        have hMx := HM9.out.below HBAB.out HM9.out.lt
        have zMx := hMx.lt
        have hn9l : n9 ≤ 35184372088832 := by have := HO9.out.hn; omega
        unfold msV at hMx
        obtain ⟨hMx_c0, hMx_c1, hMx_c2, hMx_c3, hMx_c4, hMx_c5, hMx_c6, hMx_c7, hMx_c8, hMx_c9, hMx_c10, hMx_c11, hMx_c12, hMx_c13⟩ := cel14 hMx
        have hMx_f := hMx.frozen
        go_wp2_with fail
        refine (spoil_any A9 n9 c9 N M9.data _ hn9l (HO9.out.below HBAB.out).own (Nat.le_trans hN9 HBAB.out.size)).mono ?_
        rintro e wc ⟨rfl, hgc⟩
        have hoc : Only (fun q => A9 = some ⟨q, 0, none⟩) wb wc := Only.of_grown hgc (fun q hq => by
          rcases HO9.out.own.shape with ⟨hx, _, _⟩ | ⟨q', hx, _, _⟩
          · rw [hx] at hq; simp [Value.ownBlock] at hq
          · rw [hx] at hq ⊢
            simp [Value.ownBlock] at hq
            subst hq
            rfl)
        have ho9 : Only (fun q => A9 = some ⟨q, 0, none⟩) W9 wc := (Only.of_below HBAB.out).trans hoc (fun _ _ h => h)
        have HPc := hide (HP9.out wc ho9)
        have hbc : Below N w wc := hb9.trans (ho9.below hN9 (fun q hq => by
          have := HO9.out.own.fin q hq
          exact this.1))
        go_wp2_with fail
        go_roundw
        case rel => exact .inr ⟨rfl, HPc, hbc⟩
        case measure => simp [intOf]
      · go_wp2_with fail
        go_ret
        exact (⟨rfl, HPx.out, hbx⟩ : DoesE N L pp pd pt ps pr w _ _)
end Go.Proofs.YtimdmhhgomfijaaGreat

/- The reference of seg: what its methods answer; down. -/
import Derived.Test.YtimdmhhgomfijaaGreatRSgA
import Derived.Test.YtimdmhhgomfijaaGreatSegG
namespace Go.Proofs.YtimdmhhgomfijaaGreat
set_option linter.unusedVariables false
set_option linter.unusedSimpArgs false
set_option linter.unnecessarySimpa false
open Go.RowKit
set_option maxRecDepth 100000
set_option maxHeartbeats 40000000
/-- two states that behave alike -/
def Ali (S R : SegS) : Prop := S.st = R.st ∧ (R.st ≠ 0 → S.ix = R.ix ∧ S.sub = R.sub) ∧ (R.st = 1 → S.mo = R.mo ∧ S.sz = R.sz ∧ S.b = R.b ∧ S.tg = R.tg ∧ -1 ≤ R.sz) ∧ (R.st = 2 → S.b = R.b ∧ S.tg = R.tg) ∧ (R.st = 3 → wellM S = wellM R)
def RMsR (w : World) (N : Nat) (As : Option Addr) (ns cs : Nat) (l : List Ms) : Prop :=
  (l = [] ∧ As = none ∧ ns = 0 ∧ cs = 0) ∨ ∃ M g A n c, l = [M] ∧ As = some ⟨g, 0, none⟩ ∧ ns = 1 ∧ cs = 1 ∧ N ≤ g ∧ Blk w g 48 (msV M A n c) ∧ OwnB w N A n c M.data
/-- the reference's server at block p -/
def RV_ (w : World) (G : Nat → Prop) (p pd : Nat) (S : SegS) : Prop :=
  ∃ R A n c, Ali S R ∧ Blk w p 52 (srvV R pd A n c) ∧ ((R.st = 1 ∨ R.st = 2) → n = R.b.length ∧ n ≤ c ∧ Sl w A (R.b.map bv) ∧ (A = none → n = 0) ∧ ∀ ad, A = some ad → G ad.block ∧ ad.block < w.heap.size ∧ ad.block ≠ p)
def ROutR (w : World) (G : Nat → Prop) (p pd : Nat) (S' : SegS) (O : SegO) (e : Ending) (w' : World) : Prop :=
  ∃ As ns cs A n c, e = .returned (.agg (outV As ns cs O A n c)) ∧ RMsR w' w.heap.size As ns cs O.ms ∧ OwnB w' w.heap.size A n c O.b ∧ RV_ w' (fun g => G g ∨ w.heap.size ≤ g) p pd S' ∧ Only (fun g => g = p) w w'
theorem Ali.refl1 {S : SegS} (h : S.st = 1) (hs : -1 ≤ S.sz) : Ali S S := ⟨rfl, fun _ => ⟨rfl, rfl⟩, fun _ => ⟨rfl, rfl, rfl, rfl, hs⟩, fun _ => ⟨rfl, rfl⟩, fun _ => rfl⟩
theorem Ali.refl2 {S : SegS} (h : S.st = 2) : Ali S S := ⟨rfl, fun _ => ⟨rfl, rfl⟩, fun h1 => by omega, fun _ => ⟨rfl, rfl⟩, fun _ => rfl⟩
theorem Ali.refl3 {S : SegS} (h : S.st = 3) : Ali S S := ⟨rfl, fun _ => ⟨rfl, rfl⟩, fun h1 => by omega, fun _ => ⟨rfl, rfl⟩, fun _ => rfl⟩
theorem wp_calls_gen {P : World → Prop} {f : Nat} {args : Array Value} {Q : Ending → World → Prop} {w : World} (h : P w) (k : ∀ W, P W → Calls Tryz.prog f args W Q) : Calls Tryz.prog f args w Q := k w h
theorem Ali.idle {S R : SegS} (h1 : S.st = 0) (h2 : R.st = 0) : Ali S R := ⟨h1.trans h2.symm, fun h => absurd h2 h, fun h => by omega, fun h => by omega, fun h => by omega⟩
theorem RV_.keep {w w' : World} {G H : Nat → Prop} {p pd : Nat} {S : SegS} (h : RV_ w G p pd S) (hk : ∀ q, q = p ∨ G q → q < w.heap.size → w'.heap[q]? = w.heap[q]?) (hz : w.heap.size ≤ w'.heap.size) (hH : ∀ q, q < w.heap.size → G q → H q) : RV_ w' H p pd S := by
  obtain ⟨R, A, n, c, ha, hB, hb⟩ := h
  refine ⟨R, A, n, c, ha, (hk p (.inl rfl) hB.lt).trans hB, fun h0 => ?_⟩
  obtain ⟨h1, h2, h3, h4, h5⟩ := hb h0
  exact ⟨h1, h2, sl_blk h3 (fun ad e => hk _ (.inr (h5 ad e).1) (h5 ad e).2.1), h4, fun ad e => ⟨hH _ (h5 ad e).2.1 (h5 ad e).1, Nat.lt_of_lt_of_le (h5 ad e).2.1 hz, (h5 ad e).2.2⟩⟩
/-- what was made is stored into the result -/
theorem rfin {w W3 : World} {G : Nat → Prop} {p pd n' c' ns cs n c : Nat} {S' R' : SegS} {O : SegO} {As A A' : Option Addr} {ks : List KB} (hX : PX w p 52 (srvL R' pd A' n' c') (⟨w.heap.size + 1, 90, outL_ none 0 0 outZ none 0 0⟩ :: ks) W3) (hp : p < w.heap.size)
    (hm : RMsR W3 (w.heap.size + 2) As ns cs O.ms) (hO : OwnB W3 (w.heap.size + 2) A n c O.b) (ha : Ali S' R') (hb : (R'.st = 1 ∨ R'.st = 2) → n' = R'.b.length ∧ n' ≤ c' ∧ Sl W3 A' (R'.b.map bv) ∧ (A' = none → n' = 0) ∧ ∀ ad, A' = some ad → (G ad.block ∨ w.heap.size ≤ ad.block) ∧ ad.block < W3.heap.size ∧ ad.block ≠ p ∧ ad.block ≠ w.heap.size + 1) :
    Blk (putO W3 (w.heap.size + 1) As ns cs O A n c) (w.heap.size + 1) 90 (outV As ns cs O A n c) ∧ ROutR w G p pd S' O (.returned (.agg (outV As ns cs O A n c))) (putO W3 (w.heap.size + 1) As ns cs O A n c) := by
  have hK : Blk W3 (w.heap.size + 1) 90 (outV none 0 0 outZ none 0 0) := hX.k0
  refine ⟨putO_blkT hK, As, ns, cs, A, n, c, rfl, ?_, (putO_own hO (by omega) _ _ _ _ _ _ _).mono (by omega), ⟨R', A', n', c', ha, putO_far hX.blk (by omega) _ _ _ _ _ _ _, fun h0 => ?_⟩, putO_only hX.only (by omega) _ _ _ _ _ _ _⟩
  · rcases hm with h | ⟨M, g, A2, n2, c2, h1, h2, h3, h4, h5, h6, h7⟩
    · exact .inl h
    · exact .inr ⟨M, g, A2, n2, c2, h1, h2, h3, h4, by omega, putO_far h6 (by omega) _ _ _ _ _ _ _, (putO_own h7 (by omega) _ _ _ _ _ _ _).mono (by omega)⟩
  · obtain ⟨h1, h2, h3, h4, h5⟩ := hb h0
    exact ⟨h1, h2, sl_blk h3 (fun ad e => putO_heap (h5 ad e).2.2.2 _ _ _ _ _ _ _), h4, fun ad e => ⟨(h5 ad e).1, by rw [putO_size]; exact (h5 ad e).2.1, (h5 ad e).2.2.1⟩⟩
/-- one message is made and stored -/
theorem rfin_send {w W3 : World} {G : Nat → Prop} {p pd n' c' n c N : Nat} {S' R' : SegS} {M : Ms} {A A' : Option Addr} {ks : List KB} (hX : PX w p 52 (srvL R' pd A' n' c') (⟨w.heap.size + 1, 90, outL_ none 0 0 outZ none 0 0⟩ :: ks) W3) (hN : W3.heap.size = N) (hp : p < w.heap.size)
    (hO : OwnB W3 (w.heap.size + 2) A n c M.data) (ha : Ali S' R') (hb : (R'.st = 1 ∨ R'.st = 2) → n' = R'.b.length ∧ n' ≤ c' ∧ Sl W3 A' (R'.b.map bv) ∧ (A' = none → n' = 0) ∧ ∀ ad, A' = some ad → (G ad.block ∨ w.heap.size ≤ ad.block) ∧ ad.block < W3.heap.size ∧ ad.block ≠ p ∧ ad.block ≠ w.heap.size + 1) :
    Blk ((putO W3 (w.heap.size + 1) (some ⟨N, 0, none⟩) 1 1 outZ none 0 0).alloc (.cells (msV M A n c) 48)) (w.heap.size + 1) 90 (outV (some ⟨N, 0, none⟩) 1 1 outZ none 0 0) ∧
    ROutR w G p pd S' (outM M) (.returned (.agg (outV (some ⟨N, 0, none⟩) 1 1 outZ none 0 0))) ((putO W3 (w.heap.size + 1) (some ⟨N, 0, none⟩) 1 1 outZ none 0 0).alloc (.cells (msV M A n c) 48)) := by
  subst hN
  have hK : Blk W3 (w.heap.size + 1) 90 (outV none 0 0 outZ none 0 0) := hX.k0
  have hz : (putO W3 (w.heap.size + 1) (some ⟨W3.heap.size, 0, none⟩) 1 1 outZ none 0 0).heap.size = W3.heap.size := putO_size _ _ _ _ _ _ _ _ _
  have hlt := hK.lt
  have hn := Blk.new (putO W3 (w.heap.size + 1) (some ⟨W3.heap.size, 0, none⟩) 1 1 outZ none 0 0) 48 (msV M A n c)
  rw [hz] at hn
  refine ⟨(putO_blkT hK).alloc _, some ⟨W3.heap.size, 0, none⟩, 1, 1, none, 0, 0, rfl, .inr ⟨M, W3.heap.size, A, n, c, rfl, rfl, rfl, rfl, by omega, hn, ((putO_own hO (by omega) _ _ _ _ _ _ _).mono (by omega)).alloc _⟩, OwnB.nil _ _, ⟨R', A', n', c', ha, (putO_far hX.blk (by omega) _ _ _ _ _ _ _).alloc _, fun h0 => ?_⟩, (putO_only hX.only (by omega) _ _ _ _ _ _ _).new _⟩
  obtain ⟨h1, h2, h3, h4, h5⟩ := hb h0
  refine ⟨h1, h2, sl_blk h3 (fun ad e => ?_), h4, fun ad e => ⟨(h5 ad e).1, by have := (h5 ad e).2.1; simp; omega, (h5 ad e).2.2.1⟩⟩
  rw [Below.heap_alloc _ _ _ (by rw [hz]; exact (h5 ad e).2.1)]
  exact putO_heap (h5 ad e).2.2.2 _ _ _ _ _ _ _
/-- what an inner call of the reference's leaves is handed on -/
theorem rmsR_one {w : World} {N g n c : Nat} {M : Ms} {A : Option Addr} (h : N ≤ g) (hB : Blk w g 48 (msV M A n c)) (hO : OwnB w N A n c M.data) : RMsR w N (some ⟨g, 0, none⟩) 1 1 [M] := .inr ⟨M, g, A, n, c, rfl, rfl, rfl, rfl, h, hB, hO⟩
def entL_ (E : Ent) (A : Option Addr) (n c : Nat) : List Value := [.int .i64 E.ix, .int .i64 E.sub, .string E.nm, .int .i64 E.ty, .int .i64 E.acc, .bool E.mp, .bool E.st, .int .i64 E.mx, .int .i64 E.lo, .int .i64 E.hi, .slice A n c]
section
variable {F : Nat → Prop} {pd n cl cv : Nat} {Al Av : Option Addr} {L : List Ent} {V : List (List UInt8)} {ds es : List (Option Addr × Nat)}
theorem rsg_down (p : Nat) (S : SegS) (G : Nat → Prop) (M : Ms) (A3 : Option Addr) (m3 c3 : Nat) (w : World) (hD : DB 82 w F pd Al n cl Av cv L V ds es) (hn : n ≤ 1000)
    (hp : ¬ F p) (hS : RV_ w G p pd S) (h0 : S.st = 0) (hm : m3 = M.data.length) (hm1 : m3 ≤ 100000) (hMd : ∀ W, Only (fun q => q = p) w W → Sl W A3 (M.data.map bv)) (hsz : M.size ≤ 4294967295) :
    Calls Tryz.prog 69 #[.pointer (some ⟨p, 0, none⟩), .agg (msV M A3 m3 c3)] w (ROutR w G p pd (downS L S M) (downO L M)) := by
  obtain ⟨R, A, n1, c1, hal, hB, _⟩ := id hS
  have hR0 : R.st = 0 := hal.1.symm.trans h0
  obtain ⟨P, hP⟩ : ∃ P, P = ROutR w G p pd (downS L S M) (downO L M) := ⟨_, rfl⟩
  rw [← hP]
  have HP := hide hP
  have hz := hB.lt
  have H1 := hide hn
  have HR0 := hide hR0
  have HD := hide (fun W (h : Only (fun q => q = p) w W) => hD.keep (w' := W) (fun g hg hlt => h.block g hlt (fun e => hp (e ▸ hg))))
  have HH0 := (PX.start (cs := srvL R pd A n1 c1) hB).new2 rfl 48 90 (msL_ M A3 m3 c3) (outL_ none 0 0 outZ none 0 0)
  have HH := hide HH0
  have HM := hide (And.intro hm hMd)
  have HS0 := hide h0
  clear hP hS hB hD hn HH0 hm hMd hal hR0 h0
  unfold msL_ outL_ outZ at HH
  unfold msV
  go_enter Tryz.func69, Tryz.ntmps69
  go_wp2_with fail
  refine wp_gen (P := fun W => PX w p 52 (srvL R pd A n1 c1) [⟨w.heap.size + 1, 90, outL_ none 0 0 outZ none 0 0⟩, ⟨w.heap.size, 48, msL_ M A3 m3 c3⟩] W) HH.out (fun W hW => ?_)
  clear HH
  have HX := hide hW
  have zW := hW.lt
  have zK := hW.k0.lt
  have zK1 := hW.k1.lt
  have b0 : W.cell? ⟨p, 0, none⟩ = some (.pointer (some ⟨pd, 0, none⟩)) := hW.blk.cell 0 rfl
  have b1 : W.cell? ⟨w.heap.size, 1, none⟩ = some (.int .i64 M.ix) := hW.k1.cell 1 rfl
  have b2 : W.cell? ⟨w.heap.size, 2, none⟩ = some (.int .i64 M.sub) := hW.k1.cell 2 rfl
  have HDW := hide (HD.out W hW.only)
  clear hW
  go_cut [5, 6] (fun s5 s6 wx => DwnC W L M.ix M.sub s5 s6 wx)
  case first =>
    refine wp_region_held_drew (S := (fun w' => (∀ qA : Addr, qA.block < (W).heap.size → w'.cell? qA = (W).cell? qA) ∧ Below (W).heap.size (W) w')) (by kernel_rfl) ?hS1 (fun hHeld => ?rest1)
    case hS1 => ((try dsimp only); (((try go_split_ands); refine sn_of ?_; repeat' (first | with_reducible assumption | with_reducible exact Below.refl _ _ | with_reducible apply below_alloc | with_reducible apply below_drew1 | with_reducible apply below_drewN | (with_reducible apply below_step; with_reducible assumption) | (with_reducible apply below_sg2; (first | exact Nat.le_refl _ | (simp; done) | omega))))))
    case' rest1 => skip
    refine wpAnyH_take (i := 0) (oi := _) (v := ?v2) rfl (by kernel_rfl) (by kernel_rfl) (by kernel_rfl) (fun _ _ _ h => h) (Or.inl ⟨by rfl, ?hy2⟩) (by assumption) ?rest2
    case hy2 => ((intro w hSw; (try dsimp only at hSw); go_simp) <;> with_reducible rfl)
    case' rest2 => try simp only [List.getElem_toArray, List.getElem_cons_zero, List.getElem_cons_succ, Act.put, List.setIfInBounds_toArray, List.set_cons_zero, List.set_cons_succ]
    refine wpAnyH_take (i := 1) (oi := _) (v := ?v3) rfl (by kernel_rfl) (by kernel_rfl) (by kernel_rfl) (fun _ _ _ h => h) (Or.inl ⟨by rfl, ?hy3⟩) (by assumption) ?rest3
    case hy3 => ((intro w hSw; (try dsimp only at hSw); go_simp) <;> with_reducible rfl)
    case' rest3 => try simp only [List.getElem_toArray, List.getElem_cons_zero, List.getElem_cons_succ, Act.put, List.setIfInBounds_toArray, List.set_cons_zero, List.set_cons_succ]
    refine wpAnyH_take (i := 2) (oi := _) (v := ?v4) rfl (by kernel_rfl) (by kernel_rfl) (by kernel_rfl) (fun _ _ _ h => h) (Or.inl ⟨by rfl, ?hy4⟩) (by assumption) ?rest4
    case hy4 => ((intro w hSw; (try dsimp only at hSw); go_simp) <;> with_reducible rfl)
    case' rest4 => try simp only [List.getElem_toArray, List.getElem_cons_zero, List.getElem_cons_succ, Act.put, List.setIfInBounds_toArray, List.set_cons_zero, List.set_cons_succ]
    refine wpAnyH_take (i := 3) (oi := _) (v := ?v5) rfl (by kernel_rfl) (by kernel_rfl) (by kernel_rfl) (fun _ _ _ h => h) (Or.inl ⟨by rfl, ?hy5⟩) (by assumption) ?rest5
    case hy5 => ((intro w hSw; (try dsimp only at hSw); go_simp) <;> with_reducible rfl)
    case' rest5 => try simp only [List.getElem_toArray, List.getElem_cons_zero, List.getElem_cons_succ, Act.put, List.setIfInBounds_toArray, List.set_cons_zero, List.set_cons_succ]
    refine wpAnyH_take (i := 4) (oi := _) (v := ?v6) rfl (by kernel_rfl) (by kernel_rfl) (by kernel_rfl) (fun _ _ _ h => h) (Or.inl ⟨by rfl, ?hy6⟩) (by assumption) ?rest6
    case hy6 => ((intro w hSw; (try dsimp only at hSw); go_simp) <;> with_reducible rfl)
    case' rest6 => try simp only [List.getElem_toArray, List.getElem_cons_zero, List.getElem_cons_succ, Act.put, List.setIfInBounds_toArray, List.set_cons_zero, List.set_cons_succ]
    refine wpAnyH_take (i := 5) (oi := _) (v := ?v7) rfl (by kernel_rfl) (by kernel_rfl) (by kernel_rfl) (fun _ _ _ h => h) (Or.inl ⟨by rfl, ?hy7⟩) (by assumption) ?rest7
    case hy7 => ((intro w hSw; (try dsimp only at hSw); go_simp) <;> with_reducible rfl)
    case' rest7 => try simp only [List.getElem_toArray, List.getElem_cons_zero, List.getElem_cons_succ, Act.put, List.setIfInBounds_toArray, List.set_cons_zero, List.set_cons_succ]
    refine wpAnyH_take (i := 6) (oi := _) (v := ?v8) rfl (by kernel_rfl) (by kernel_rfl) (by kernel_rfl) (fun _ _ _ h => h) (Or.inl ⟨by rfl, ?hy8⟩) (by assumption) ?rest8
    case hy8 => ((intro w hSw; (try dsimp only at hSw); go_simp) <;> with_reducible rfl)
    case' rest8 => try simp only [List.getElem_toArray, List.getElem_cons_zero, List.getElem_cons_succ, Act.put, List.setIfInBounds_toArray, List.set_cons_zero, List.set_cons_succ]
    refine wpAnyH_take (i := 7) (oi := _) (v := ?v9) rfl (by kernel_rfl) (by kernel_rfl) (by kernel_rfl) (fun _ _ _ h => h) (Or.inl ⟨by rfl, ?hy9⟩) (by assumption) ?rest9
    case hy9 => ((intro w hSw; (try dsimp only at hSw); go_simp) <;> with_reducible rfl)
    case' rest9 => try simp only [List.getElem_toArray, List.getElem_cons_zero, List.getElem_cons_succ, Act.put, List.setIfInBounds_toArray, List.set_cons_zero, List.set_cons_succ]
    refine wpAnyH_ready (rs := [8, 12]) (by kernel_rfl) (by simp) (AllReadyH.cons (o := _) rfl (fun K hK => ?_) (AllReadyH.cons (o := _) rfl (fun K hK => ?_) AllReadyH.nil))
    · go_simp
      refine (rsg_may M.ix M.sub _ (HDW.out.below (Below.drew (Below.refl _ _))) H1.out).mono ?_
      rintro e w3 ⟨E, A4, n4, c4, rfl, hE, hb3⟩
      unfold entV
      dsimp only
      replace hb3 := below_undrew hb3
      have HE := hide hE
      clear hE
      refine hK.out _ _ ?hS11 (fun hHeld => ?rest11)
      case hS11 => ((try dsimp only); (((try go_split_ands); refine sn_of ?_; repeat' (first | with_reducible assumption | with_reducible exact Below.refl _ _ | with_reducible apply below_alloc | with_reducible apply below_drew1 | with_reducible apply below_drewN | (with_reducible apply below_step; with_reducible assumption) | (with_reducible apply below_sg2; (first | exact Nat.le_refl _ | (simp; done) | omega))))))
      case' rest11 => (clear hK K; try simp only [List.getElem_toArray, List.getElem_cons_zero, List.getElem_cons_succ, Act.put, List.setIfInBounds_toArray, List.set_cons_zero, List.set_cons_succ])
      refine wpAnyH_take (i := 9) (oi := _) (v := ?v12) rfl (by kernel_rfl) (by kernel_rfl) (by kernel_rfl) (fun _ _ _ h => h) (Or.inl ⟨by rfl, ?hy12⟩) (by assumption) ?rest12
      case hy12 => ((intro w hSw; (try dsimp only at hSw); go_simp) <;> with_reducible rfl)
      case' rest12 => try simp only [List.getElem_toArray, List.getElem_cons_zero, List.getElem_cons_succ, Act.put, List.setIfInBounds_toArray, List.set_cons_zero, List.set_cons_succ]
      refine wpAnyH_take (i := 10) (oi := _) (v := ?v13) rfl (by kernel_rfl) (by kernel_rfl) (by kernel_rfl) (fun _ _ _ h => h) (Or.inl ⟨by rfl, ?hy13⟩) (by assumption) ?rest13
      case hy13 => ((intro w hSw; (try dsimp only at hSw); go_simp) <;> with_reducible rfl)
      case' rest13 => try simp only [List.getElem_toArray, List.getElem_cons_zero, List.getElem_cons_succ, Act.put, List.setIfInBounds_toArray, List.set_cons_zero, List.set_cons_succ]
      refine wpAnyH_take (i := 11) (oi := _) (v := ?v14) rfl (by kernel_rfl) (by kernel_rfl) (by kernel_rfl) (fun _ _ _ h => h) (Or.inl ⟨by rfl, ?hy14⟩) (by assumption) ?rest14
      case hy14 => ((intro w hSw; (try dsimp only at hSw); go_simp) <;> with_reducible rfl)
      case' rest14 => try simp only [List.getElem_toArray, List.getElem_cons_zero, List.getElem_cons_succ, Act.put, List.setIfInBounds_toArray, List.set_cons_zero, List.set_cons_succ]
      refine wpAnyH_ready (rs := [12]) (by kernel_rfl) (by simp) ?_
      refine AllReadyH.cons (o := _) rfl (fun K hK => ?_) AllReadyH.nil
      go_simp
      refine hK.out _ _ ?hS17 (fun hHeld => ?rest17)
      case hS17 => ((try dsimp only); (((try go_split_ands); refine sn_of ?_; repeat' (first | with_reducible assumption | with_reducible exact Below.refl _ _ | with_reducible apply below_alloc | with_reducible apply below_drew1 | with_reducible apply below_drewN | (with_reducible apply below_step; with_reducible assumption) | (with_reducible apply below_sg2; (first | exact Nat.le_refl _ | (simp; done) | omega))))))
      case' rest17 => (clear hK K; try simp only [List.getElem_toArray, List.getElem_cons_zero, List.getElem_cons_succ, Act.put, List.setIfInBounds_toArray, List.set_cons_zero, List.set_cons_succ])
      refine wpAnyH_ready (rs := [13]) (by kernel_rfl) (by simp) ?_
      refine AllReadyH.cons (o := _) rfl (fun K hK => ?_) AllReadyH.nil
      go_simp
      refine hK.out _ _ ?hS20 (fun hHeld => ?rest20)
      case hS20 => ((try dsimp only); (((try go_split_ands); refine sn_of ?_; repeat' (first | with_reducible assumption | with_reducible exact Below.refl _ _ | with_reducible apply below_alloc | with_reducible apply below_drew1 | with_reducible apply below_drewN | (with_reducible apply below_step; with_reducible assumption) | (with_reducible apply below_sg2; (first | exact Nat.le_refl _ | (simp; done) | omega))))))
      case' rest20 => (clear hK K; try simp only [List.getElem_toArray, List.getElem_cons_zero, List.getElem_cons_succ, Act.put, List.setIfInBounds_toArray, List.set_cons_zero, List.set_cons_succ])
      refine wpAnyH_take (i := 14) (oi := _) (v := ?v21) rfl (by kernel_rfl) (by kernel_rfl) (by kernel_rfl) (fun _ _ _ h => h) (Or.inl ⟨by rfl, ?hy21⟩) (by assumption) ?rest21
      case hy21 => ((intro w hSw; (try dsimp only at hSw); go_simp) <;> with_reducible rfl)
      case' rest21 => try simp only [List.getElem_toArray, List.getElem_cons_zero, List.getElem_cons_succ, Act.put, List.setIfInBounds_toArray, List.set_cons_zero, List.set_cons_succ]
      refine wpAnyH_done (by kernel_rfl) ?_ _
      have hEnd := hHeld.2
      repeat (clear hHeld)
      go_wp2_with fail
      go_meet
      exact dwnc_mk hb3 HE.out
    · go_simp
      refine hK.out _ _ ?hS23 (fun hHeld => ?rest23)
      case hS23 => ((try dsimp only); (((try go_split_ands); refine sn_of ?_; repeat' (first | with_reducible assumption | with_reducible exact Below.refl _ _ | with_reducible apply below_alloc | with_reducible apply below_drew1 | with_reducible apply below_drewN | (with_reducible apply below_step; with_reducible assumption) | (with_reducible apply below_sg2; (first | exact Nat.le_refl _ | (simp; done) | omega))))))
      case' rest23 => (clear hK K; try simp only [List.getElem_toArray, List.getElem_cons_zero, List.getElem_cons_succ, Act.put, List.setIfInBounds_toArray, List.set_cons_zero, List.set_cons_succ])
      refine wpAnyH_ready (rs := [8]) (by kernel_rfl) (by simp) ?_
      refine AllReadyH.cons (o := _) rfl (fun K hK => ?_) AllReadyH.nil
      go_simp
      refine (rsg_may M.ix M.sub _ (HDW.out.below (by repeat' (first | with_reducible assumption | with_reducible exact Below.refl _ _ | with_reducible apply below_alloc | with_reducible apply below_drew1 | with_reducible apply below_drewN | (with_reducible apply below_step; with_reducible assumption) | (with_reducible apply below_sg2; (first | exact Nat.le_refl _ | (simp; done) | omega))))) H1.out).mono ?_
      rintro e w3 ⟨E, A4, n4, c4, rfl, hE, hb3⟩
      unfold entV
      dsimp only
      have hb5 : Below W.heap.size W w3 := below_zd (z := .cells (entV zeroE none 0 0) 67) (by simpa [entV, zeroE] using hb3)
      have hZ3 : Blk w3 W.heap.size 67 (entV zeroE none 0 0) := blk_zd (by simpa [entV, zeroE] using hb3)
      have HZ3 := hide hZ3
      have HE := hide hE
      unfold entV zeroE at hZ3
      obtain ⟨hZ3_c0, hZ3_c1, hZ3_c2, hZ3_c3, hZ3_c4, hZ3_c5, hZ3_c6, hZ3_c7, hZ3_c8, hZ3_c9, hZ3_c10⟩ := cel11 hZ3
      have hZ3_f := hZ3.frozen
      clear hE hb3
      refine hK.out _ _ ?hS26 (fun hHeld => ?rest26)
      case hS26 => ((try dsimp only); (((try go_split_ands); refine sn_of ?_; repeat' (first | with_reducible assumption | with_reducible exact Below.refl _ _ | with_reducible apply below_alloc | with_reducible apply below_drew1 | with_reducible apply below_drewN | (with_reducible apply below_step; with_reducible assumption) | (with_reducible apply below_sg2; (first | exact Nat.le_refl _ | (simp; done) | omega))))))
      case' rest26 => (clear hK K; try simp only [List.getElem_toArray, List.getElem_cons_zero, List.getElem_cons_succ, Act.put, List.setIfInBounds_toArray, List.set_cons_zero, List.set_cons_succ])
      refine wpAnyH_take (i := 9) (oi := _) (v := ?v27) rfl (by kernel_rfl) (by kernel_rfl) (by kernel_rfl) (fun _ _ _ h => h) (Or.inl ⟨by rfl, ?hy27⟩) (by assumption) ?rest27
      case hy27 => ((intro w hSw; (try dsimp only at hSw); go_simp) <;> with_reducible rfl)
      case' rest27 => try simp only [List.getElem_toArray, List.getElem_cons_zero, List.getElem_cons_succ, Act.put, List.setIfInBounds_toArray, List.set_cons_zero, List.set_cons_succ]
      refine wpAnyH_take (i := 10) (oi := _) (v := ?v28) rfl (by kernel_rfl) (by kernel_rfl) (by kernel_rfl) (fun _ _ _ h => h) (Or.inl ⟨by rfl, ?hy28⟩) (by assumption) ?rest28
      case hy28 => ((intro w hSw; (try dsimp only at hSw); go_simp) <;> with_reducible rfl)
      case' rest28 => try simp only [List.getElem_toArray, List.getElem_cons_zero, List.getElem_cons_succ, Act.put, List.setIfInBounds_toArray, List.set_cons_zero, List.set_cons_succ]
      refine wpAnyH_take (i := 11) (oi := _) (v := ?v29) rfl (by kernel_rfl) (by kernel_rfl) (by kernel_rfl) (fun _ _ _ h => h) (Or.inl ⟨by rfl, ?hy29⟩) (by assumption) ?rest29
      case hy29 => ((intro w hSw; (try dsimp only at hSw); go_simp) <;> with_reducible rfl)
      case' rest29 => try simp only [List.getElem_toArray, List.getElem_cons_zero, List.getElem_cons_succ, Act.put, List.setIfInBounds_toArray, List.set_cons_zero, List.set_cons_succ]
      refine wpAnyH_ready (rs := [13]) (by kernel_rfl) (by simp) ?_
      refine AllReadyH.cons (o := _) rfl (fun K hK => ?_) AllReadyH.nil
      go_simp
      refine hK.out _ _ ?hS32 (fun hHeld => ?rest32)
      case hS32 => ((try dsimp only); (((try go_split_ands); refine sn_of ?_; repeat' (first | with_reducible assumption | with_reducible exact Below.refl _ _ | with_reducible apply below_alloc | with_reducible apply below_drew1 | with_reducible apply below_drewN | (with_reducible apply below_step; with_reducible assumption) | (with_reducible apply below_sg2; (first | exact Nat.le_refl _ | (simp; done) | omega))))))
      case' rest32 => (clear hK K; try simp only [List.getElem_toArray, List.getElem_cons_zero, List.getElem_cons_succ, Act.put, List.setIfInBounds_toArray, List.set_cons_zero, List.set_cons_succ])
      refine wpAnyH_take (i := 14) (oi := _) (v := ?v33) rfl (by kernel_rfl) (by kernel_rfl) (by kernel_rfl) (fun _ _ _ h => h) (Or.inl ⟨by rfl, ?hy33⟩) (by assumption) ?rest33
      case hy33 => ((intro w hSw; (try dsimp only at hSw); go_simp) <;> with_reducible rfl)
      case' rest33 => try simp only [List.getElem_toArray, List.getElem_cons_zero, List.getElem_cons_succ, Act.put, List.setIfInBounds_toArray, List.set_cons_zero, List.set_cons_succ]
      refine wpAnyH_done (by kernel_rfl) ?_ _
      have hEnd := hHeld.2
      repeat (clear hHeld)
      go_wp2_with fail
      go_meet
      have F := dwnc_mk2 (L := L) (ix := M.ix) (sub := M.sub) (A4 := A4) (n4 := n4) (c4 := c4) hb5 HZ3.out HE.out
      unfold put11 at F
      exact F
  case rest =>
    obtain ⟨ge, E, A4, n4, c4, rfl, rfl, hge, hEb, hE, hbx⟩ := hcut
    have hgp : ge ≠ p := by have := HX.out.lt; omega
    have HXW := hide ((HX.out.step hbx).add ge 67 (entL_ E A4 n4 c4) hgp hEb)
    have hwz : w.heap.size + 2 ≤ wc.heap.size := by have := HXW.out.k1.lt; show _ + 1 < _; exact this
    have k1 := HXW.out.k2
    have kk := HXW.out.k1
    have hEb2 := HXW.out.k0
    have bb := HXW.out.blk
    have hne0 : w.heap.size ≠ p := by omega
    have hne1 : w.heap.size + 1 ≠ p := by omega
    clear hEb
    unfold msL_ at k1
    unfold outL_ outZ at kk
    unfold srvL at bb
    unfold entL_ at hEb2
    have zk1 := k1.lt
    have zkk := kk.lt
    have zp := bb.lt
    have zE := hEb2.lt
    obtain ⟨k1_c0, k1_c1, k1_c2, k1_c3, k1_c4, k1_c5, k1_c6, k1_c7, k1_c8, k1_c9, k1_c10, k1_c11, k1_c12, k1_c13⟩ := cel14 k1
    have k1_f := k1.frozen
    obtain ⟨kk_c0, kk_c1, kk_c2, kk_c3, kk_c4⟩ := cel5 kk
    have kk_f := kk.frozen
    obtain ⟨hEb2_c0, hEb2_c1, hEb2_c2, hEb2_c3, hEb2_c4, hEb2_c5, hEb2_c6, hEb2_c7, hEb2_c8, hEb2_c9, hEb2_c10⟩ := cel11 hEb2
    have hEb2_f := hEb2.frozen
    obtain ⟨bb_c0, bb_c1, bb_c2, bb_c3, bb_c4, bb_c5, bb_c6, bb_c7, bb_c8, bb_c9, bb_c10, bb_c11, bb_c12, bb_c13, bb_c14, bb_c15, bb_c16, bb_c17, bb_c18, bb_c19, bb_c20, bb_c21⟩ := cel22 bb
    have bb_f := bb.frozen
    obtain ⟨k0, hk0⟩ := smayC_nn L M.ix M.sub
    rw [hk0]
    by_cases hk : k0 = 0
    · have hsm : smayC L M.ix M.sub = 0 := by rw [hk0, hk]; rfl
      have HEK : Hid (E = entK L (locK L M.ix M.sub)) := hide (hE hsm)
      have HSM := hide hsm
      subst hk
      clear hE hk0 hsm
      by_cases hd : M.data = []
      · have hm0 : m3 = 0 := by rw [HM.out.1, hd]; rfl
        subst hm0
        have HDD := hide hd
        clear hd
        cases hsz' : M.sz
        · have HSZ := hide hsz'
          have HDC : Hid (dcode L M = 0) := hide (by unfold dcode; rw [if_neg (by rw [HSZ.out]; simp), HSM.out])
          have HX1 : Hid (PX w p 52 (srvL { R with st := 1, ix := M.ix, sub := M.sub, sz := (-1) } pd A n1 c1) [⟨wc.heap.size, 48, msL_ (okM 12 M.ix M.sub false) none 0 0⟩, ⟨ge, 67, entL_ E A4 n4 c4⟩, ⟨w.heap.size + 1, 90, outL_ none 0 0 outZ none 0 0⟩, ⟨w.heap.size, 48, msL_ M A3 0 c3⟩] _) := hide (((((HXW.out.set 2 (.int .i64 M.ix)).set 3 (.int .i64 M.sub)).set 5 (.int .i64 (-1))).set 1 (.int .i64 1)).newz (N := wc.heap.size) (by simp [World.setCell]) 48 (msL_ (okM 12 M.ix M.sub false) none 0 0))
          have hX7 := HX1.out
          simp only [show List.toArray (msL_ (okM 12 M.ix M.sub false) none 0 0) = #[.int .i64 12, .int .i64 M.ix, .int .i64 M.sub, .bool false, .bool false, .bool false, .bool false, .int .u32 0, .int .u32 0, .slice none 0 0, .int .i64 0, .int .i64 0, .int .i64 0, .int .u16 0] from rfl] at hX7
          have HX7 := hide hX7
          clear hX7 HX1 hsz'
          rw [HSZ.out] at k1_c6
          go_wp2_with fail
          refine (rsg_most E A4 n4 c4 _).mono ?_
          rintro e w8 ⟨rfl, hb8⟩
          obtain ⟨me, hme⟩ : ∃ me, me = mostE E := ⟨_, rfl⟩
          rw [← hme]
          have HME := hide hme
          have HX8 := hide (HX7.out.step hb8)
          have k2 := HX8.out.k2
          have kok := HX8.out.k0
          have b8 := HX8.out.blk
          have X9 : PX w p 52 (srvL { R with st := 1, ix := M.ix, sub := M.sub, mo := me, sz := (-1), b := [], tg := false } pd none 0 0) [⟨w.heap.size + 1, 90, outL_ none 0 0 outZ none 0 0⟩] _ := (((HX8.out.sub (ks' := [⟨w.heap.size + 1, 90, outL_ none 0 0 outZ none 0 0⟩]) (by simp)).set 4 (.int .i64 me)).set 6 (.slice none 0 0)).set 7 (.bool false)
          have HX9 := hide X9
          have hne8 : wc.heap.size ≠ p := by omega
          unfold outL_ outZ at k2
          unfold msL_ okM at kok
          unfold srvL at b8
          have zk2 := k2.lt
          have zko := kok.lt
          have zb8 := b8.lt
          clear kk_c0 kk_c1 kk_c2 kk_c3 kk_c4 kk_f
          clear hEb2_c0 hEb2_c1 hEb2_c2 hEb2_c3 hEb2_c4 hEb2_c5 hEb2_c6 hEb2_c7 hEb2_c8 hEb2_c9 hEb2_c10 hEb2_f
          clear bb_c0 bb_c1 bb_c2 bb_c3 bb_c4 bb_c5 bb_c6 bb_c7 bb_c8 bb_c9 bb_c10 bb_c11 bb_c12 bb_c13 bb_c14 bb_c15 bb_c16 bb_c17 bb_c18 bb_c19 bb_c20 bb_c21 bb_f
          obtain ⟨k2_c0, k2_c1, k2_c2, k2_c3, k2_c4⟩ := cel5 k2
          have k2_f := k2.frozen
          obtain ⟨kok_c0, kok_c1, kok_c2, kok_c3, kok_c4, kok_c5, kok_c6, kok_c7, kok_c8, kok_c9, kok_c10, kok_c11, kok_c12, kok_c13⟩ := cel14 kok
          have kok_f := kok.frozen
          obtain ⟨b8_c0, b8_c1, b8_c2, b8_c3, b8_c4, b8_c5, b8_c6, b8_c7, b8_c8, b8_c9, b8_c10, b8_c11, b8_c12, b8_c13, b8_c14, b8_c15, b8_c16, b8_c17, b8_c18, b8_c19, b8_c20, b8_c21⟩ := cel22 b8
          have b8_f := b8.frozen
          clear hme hb8 X9
          have HND : Hid (downS L S M = { S with st := 1, ix := M.ix, sub := M.sub, mo := me, sz := (-1), b := [], tg := false }) := hide (by
            unfold downS
            rw [if_neg (by rw [HDC.out]; simp), if_neg (by rw [HDD.out]; simp), ← HEK.out, ← HME.out, HSZ.out]
            rfl)
          have HR : Hid (P = ROutR w G p pd (downS L S M) (outM (okM 12 M.ix M.sub false))) := hide (by
            rw [HP.out]
            congr 1
            unfold downO
            rw [if_neg (by rw [HDC.out]; simp), if_neg (by rw [HDD.out]; simp)])
          go_wp2_with fail
          obtain ⟨F1, F2⟩ := rfin_send (G := G) (S' := downS L S M) (M := okM 12 M.ix M.sub false) (N := w8.heap.size) HX9.out (by simp [World.setCell]) hz (OwnB.nil _ _) (by
            rw [HND.out]
            exact ⟨rfl, fun _ => ⟨rfl, rfl⟩, fun _ => ⟨rfl, rfl, rfl, rfl, by first | exact Int.le_refl _ | (show (-1 : Int) ≤ ((M.size : Nat) : Int); omega)⟩, fun h => absurd h (show ¬ (1 : Int) = 2 by decide), fun h => absurd h (show ¬ (1 : Int) = 3 by decide)⟩) (fun _ => ⟨rfl, Nat.le_refl _, Sl.nil _ _, fun _ => rfl, fun ad h => by cases h⟩)
          rw [← HR.out] at F2
          unfold putO outZ msV okM at F1 F2
          dsimp only at F1 F2
          exact rret_out (O := outZ) rfl rfl rfl F1 F2
        · have HSZ := hide hsz'
          have HF := hide (fun W => rsg_fits E M.size (by omega) A4 n4 c4 W)
          obtain ⟨kf, hkf⟩ := fitsC_nn E M.size
          rw [hkf] at HF
          have HDC : Hid (dcode L M = kf) := hide (by unfold dcode; rw [if_pos ⟨HSM.out, hsz', HDD.out⟩, ← HEK.out, hkf])
          have HX1 : Hid (PX w p 52 (srvL { R with ix := M.ix, sub := M.sub, sz := (-1) } pd A n1 c1) [⟨wc.heap.size, 48, msL_ (okM 12 M.ix M.sub false) none 0 0⟩, ⟨ge, 67, entL_ E A4 n4 c4⟩, ⟨w.heap.size + 1, 90, outL_ none 0 0 outZ none 0 0⟩, ⟨w.heap.size, 48, msL_ M A3 0 c3⟩] _) := hide ((((HXW.out.set 2 (.int .i64 M.ix)).set 3 (.int .i64 M.sub)).set 5 (.int .i64 (-1))).newz (N := wc.heap.size) (by simp [World.setCell]) 48 (msL_ (okM 12 M.ix M.sub false) none 0 0))
          have hX7 := HX1.out
          simp only [show List.toArray (msL_ (okM 12 M.ix M.sub false) none 0 0) = #[.int .i64 12, .int .i64 M.ix, .int .i64 M.sub, .bool false, .bool false, .bool false, .bool false, .int .u32 0, .int .u32 0, .slice none 0 0, .int .i64 0, .int .i64 0, .int .i64 0, .int .u16 0] from rfl] at hX7
          have HX7 := hide hX7
          clear hX7 HX1 hsz' hkf
          rw [HSZ.out] at k1_c6
          go_wp2_with fail
          refine (HF.out _).mono ?_
          rintro e w7 ⟨rfl, hb7⟩
          have HX8 := hide (HX7.out.step hb7)
          clear hb7
          clear k1_c0 k1_c1 k1_c2 k1_c3 k1_c4 k1_c5 k1_c6 k1_c7 k1_c8 k1_c9 k1_c10 k1_c11 k1_c12 k1_c13 k1_f
          clear kk_c0 kk_c1 kk_c2 kk_c3 kk_c4 kk_f
          clear hEb2_c0 hEb2_c1 hEb2_c2 hEb2_c3 hEb2_c4 hEb2_c5 hEb2_c6 hEb2_c7 hEb2_c8 hEb2_c9 hEb2_c10 hEb2_f
          clear bb_c0 bb_c1 bb_c2 bb_c3 bb_c4 bb_c5 bb_c6 bb_c7 bb_c8 bb_c9 bb_c10 bb_c11 bb_c12 bb_c13 bb_c14 bb_c15 bb_c16 bb_c17 bb_c18 bb_c19 bb_c20 bb_c21 bb_f
          clear k1 kk hEb2 bb zk1 zkk zE HX7 HF
          have k1 := HX8.out.k3
          have kk := HX8.out.k2
          have hEb2 := HX8.out.k1
          have kok := HX8.out.k0
          have bb := HX8.out.blk
          unfold msL_ at k1
          unfold msL_ okM at kok
          unfold outL_ outZ at kk
          unfold srvL at bb
          unfold entL_ at hEb2
          have zk1 := k1.lt
          have zkk := kk.lt
          have zE := hEb2.lt
          have zko := kok.lt
          have zb8 := bb.lt
          obtain ⟨k1_c0, k1_c1, k1_c2, k1_c3, k1_c4, k1_c5, k1_c6, k1_c7, k1_c8, k1_c9, k1_c10, k1_c11, k1_c12, k1_c13⟩ := cel14 k1
          have k1_f := k1.frozen
          obtain ⟨kk_c0, kk_c1, kk_c2, kk_c3, kk_c4⟩ := cel5 kk
          have kk_f := kk.frozen
          obtain ⟨hEb2_c0, hEb2_c1, hEb2_c2, hEb2_c3, hEb2_c4, hEb2_c5, hEb2_c6, hEb2_c7, hEb2_c8, hEb2_c9, hEb2_c10⟩ := cel11 hEb2
          have hEb2_f := hEb2.frozen
          obtain ⟨bb_c0, bb_c1, bb_c2, bb_c3, bb_c4, bb_c5, bb_c6, bb_c7, bb_c8, bb_c9, bb_c10, bb_c11, bb_c12, bb_c13, bb_c14, bb_c15, bb_c16, bb_c17, bb_c18, bb_c19, bb_c20, bb_c21⟩ := cel22 bb
          have bb_f := bb.frozen
          obtain ⟨kok_c0, kok_c1, kok_c2, kok_c3, kok_c4, kok_c5, kok_c6, kok_c7, kok_c8, kok_c9, kok_c10, kok_c11, kok_c12, kok_c13⟩ := cel14 kok
          have kok_f := kok.frozen
          rw [HSZ.out] at k1_c6
          by_cases hkf0 : kf = 0
          · subst hkf0
            have X1 : PX w p 52 (srvL { R with st := 1, ix := M.ix, sub := M.sub, sz := M.size } pd A n1 c1) [⟨wc.heap.size, 48, msL_ (okM 12 M.ix M.sub false) none 0 0⟩, ⟨ge, 67, entL_ E A4 n4 c4⟩, ⟨w.heap.size + 1, 90, outL_ none 0 0 outZ none 0 0⟩, ⟨w.heap.size, 48, msL_ M A3 0 c3⟩] _ := (HX8.out.set 5 (.int .i64 (M.size : Nat))).set 1 (.int .i64 1)
            have HX7 := hide X1
            clear X1 HX8
            go_wp2_with fail
            refine (rsg_most E A4 n4 c4 _).mono ?_
            rintro e w8 ⟨rfl, hb8⟩
            clear kok_c0 kok_c1 kok_c2 kok_c3 kok_c4 kok_c5 kok_c6 kok_c7 kok_c8 kok_c9 kok_c10 kok_c11 kok_c12 kok_c13 kok_f
            clear k1_c0 k1_c1 k1_c2 k1_c3 k1_c4 k1_c5 k1_c6 k1_c7 k1_c8 k1_c9 k1_c10 k1_c11 k1_c12 k1_c13 k1_f
            clear kok
            obtain ⟨me, hme⟩ : ∃ me, me = mostE E := ⟨_, rfl⟩
            rw [← hme]
            have HME := hide hme
            have HX8 := hide (HX7.out.step hb8)
            have k2 := HX8.out.k2
            have kok := HX8.out.k0
            have b8 := HX8.out.blk
            have X9 : PX w p 52 (srvL { R with st := 1, ix := M.ix, sub := M.sub, mo := me, sz := M.size, b := [], tg := false } pd none 0 0) [⟨w.heap.size + 1, 90, outL_ none 0 0 outZ none 0 0⟩] _ := (((HX8.out.sub (ks' := [⟨w.heap.size + 1, 90, outL_ none 0 0 outZ none 0 0⟩]) (by simp)).set 4 (.int .i64 me)).set 6 (.slice none 0 0)).set 7 (.bool false)
            have HX9 := hide X9
            have hne8 : wc.heap.size ≠ p := by omega
            unfold outL_ outZ at k2
            unfold msL_ okM at kok
            unfold srvL at b8
            have zk2 := k2.lt
            have zko := kok.lt
            have zb8 := b8.lt
            clear kk_c0 kk_c1 kk_c2 kk_c3 kk_c4 kk_f
            clear hEb2_c0 hEb2_c1 hEb2_c2 hEb2_c3 hEb2_c4 hEb2_c5 hEb2_c6 hEb2_c7 hEb2_c8 hEb2_c9 hEb2_c10 hEb2_f
            clear bb_c0 bb_c1 bb_c2 bb_c3 bb_c4 bb_c5 bb_c6 bb_c7 bb_c8 bb_c9 bb_c10 bb_c11 bb_c12 bb_c13 bb_c14 bb_c15 bb_c16 bb_c17 bb_c18 bb_c19 bb_c20 bb_c21 bb_f
            obtain ⟨k2_c0, k2_c1, k2_c2, k2_c3, k2_c4⟩ := cel5 k2
            have k2_f := k2.frozen
            obtain ⟨kok_c0, kok_c1, kok_c2, kok_c3, kok_c4, kok_c5, kok_c6, kok_c7, kok_c8, kok_c9, kok_c10, kok_c11, kok_c12, kok_c13⟩ := cel14 kok
            have kok_f := kok.frozen
            obtain ⟨b8_c0, b8_c1, b8_c2, b8_c3, b8_c4, b8_c5, b8_c6, b8_c7, b8_c8, b8_c9, b8_c10, b8_c11, b8_c12, b8_c13, b8_c14, b8_c15, b8_c16, b8_c17, b8_c18, b8_c19, b8_c20, b8_c21⟩ := cel22 b8
            have b8_f := b8.frozen
            clear hme hb8 X9
            have HND : Hid (downS L S M = { S with st := 1, ix := M.ix, sub := M.sub, mo := me, sz := M.size, b := [], tg := false }) := hide (by
              unfold downS
              rw [if_neg (by rw [HDC.out]; simp), if_neg (by rw [HDD.out]; simp), ← HEK.out, ← HME.out, HSZ.out]
              rfl)
            have HR : Hid (P = ROutR w G p pd (downS L S M) (outM (okM 12 M.ix M.sub false))) := hide (by
              rw [HP.out]
              congr 1
              unfold downO
              rw [if_neg (by rw [HDC.out]; simp), if_neg (by rw [HDD.out]; simp)])
            go_wp2_with fail
            obtain ⟨F1, F2⟩ := rfin_send (G := G) (S' := downS L S M) (M := okM 12 M.ix M.sub false) (N := w8.heap.size) HX9.out (by simp [World.setCell]) hz (OwnB.nil _ _) (by
              rw [HND.out]
              exact ⟨rfl, fun _ => ⟨rfl, rfl⟩, fun _ => ⟨rfl, rfl, rfl, rfl, by first | exact Int.le_refl _ | (show (-1 : Int) ≤ ((M.size : Nat) : Int); omega)⟩, fun h => absurd h (show ¬ (1 : Int) = 2 by decide), fun h => absurd h (show ¬ (1 : Int) = 3 by decide)⟩) (fun _ => ⟨rfl, Nat.le_refl _, Sl.nil _ _, fun _ => rfl, fun ad h => by cases h⟩)
            rw [← HR.out] at F2
            unfold putO outZ msV okM at F1 F2
            dsimp only at F1 F2
            exact rret_out (O := outZ) rfl rfl rfl F1 F2
          · have HND : Hid (downS L S M = S) := hide (by unfold downS; rw [if_pos (by rw [HDC.out]; omega)])
            have HR : Hid (P = ROutR w G p pd S (outM (abM M.ix M.sub kf))) := hide (by
              rw [HP.out, HND.out]
              congr 1
              unfold downO
              rw [if_pos (by rw [HDC.out]; omega), HDC.out]
              rfl)
            have hkz : ¬ (kf : Int) = 0 := by omega
            have hwz7 : w.heap.size + 2 ≤ w7.heap.size := by
              have := HX8.out.k2.lt
              show w.heap.size + 1 < w7.heap.size
              exact this
            go_wp2_with fail
            refine (rsg_refuse { M with sz := true } A3 0 c3 kf _).mono ?_
            rintro e w8 ⟨g8, hg8, rfl, hM8, hb8⟩
            unfold outV outZ
            dsimp only
            have HX9 := hide (HX8.out.step hb8)
            have zg8 : w.heap.size + 2 ≤ g8 := by omega
            have HM8 := hide hM8
            have k2 := HX9.out.k2
            unfold outL_ outZ at k2
            have zk2 := k2.lt
            clear kk_c0 kk_c1 kk_c2 kk_c3 kk_c4 kk_f
            obtain ⟨k2_c0, k2_c1, k2_c2, k2_c3, k2_c4⟩ := cel5 k2
            have k2_f := k2.frozen
            clear hM8 hb8
            go_wp2_with fail
            obtain ⟨F1, F2⟩ := rfin (G := G) (S' := S) (O := outM (abM M.ix M.sub kf)) (HX9.out.sub (ks' := [⟨w.heap.size + 1, 90, outL_ none 0 0 outZ none 0 0⟩]) (by simp)) hz (rmsR_one zg8 HM8.out (OwnB.nil _ _)) (OwnB.nil _ _) (Ali.idle HS0.out HR0.out) (fun h => by have := HR0.out; rcases h with h | h <;> (try simp at h) <;> omega)
            rw [← HR.out] at F2
            unfold putO outM at F1 F2
            dsimp only at F1 F2
            exact rret_out (O := outM (abM M.ix M.sub kf)) rfl rfl rfl F1 F2
      · have HDD := hide hd
        have hm0 : 0 < m3 := by rw [HM.out.1]; exact List.length_pos_iff.2 hd
        clear hd
        have HDC : Hid (dcode L M = 0) := hide (by unfold dcode; rw [if_neg (fun h => HDD.out h.2.2), HSM.out])
        have HX1 := hide (((HXW.out.set 2 (.int .i64 M.ix)).set 3 (.int .i64 M.sub)).newz (N := wc.heap.size) (by simp [World.setCell]) 48 (msL_ (okM 12 M.ix M.sub false) none 0 0))
        have HX2 : Hid (PX w p 52 (srvL { R with ix := M.ix, sub := M.sub } pd A n1 c1) [⟨wc.heap.size, 48, msL_ (okM 12 M.ix M.sub false) none 0 0⟩, ⟨ge, 67, entL_ E A4 n4 c4⟩, ⟨w.heap.size + 1, 90, outL_ none 0 0 outZ none 0 0⟩, ⟨w.heap.size, 48, msL_ M A3 m3 c3⟩] _) := hide HX1.out
        have hK2 := HX2.out
        unfold msL_ okM at hK2
        have HK2 := hide hK2
        clear hK2 HX1
        go_wp2_with fail
        refine (rsg_told p pd { R with ix := M.ix, sub := M.sub } A n1 c1 A3 m3 c3 M.data 12 M.ix M.sub false _ HK2.out.blk HM.out.1 (by omega) (fun W' h => HM.out.2 _ (HK2.out.only.trans h (fun _ _ h => h)))).mono ?_
        rintro e w8 ⟨A5, c5, rfl, hO5, hB5, ho5⟩
        unfold outV
        dsimp only
        have HO5 := hide (hO5.mono (B' := w.heap.size + 2) (by simp [World.setCell]; omega))
        have HX8 : Hid (PX w p 52 (srvL (writeS { R with ix := M.ix, sub := M.sub } (okM 12 M.ix M.sub false)) pd A n1 c1) [⟨wc.heap.size, 48, msL_ (okM 12 M.ix M.sub false) none 0 0⟩, ⟨ge, 67, entL_ E A4 n4 c4⟩, ⟨w.heap.size + 1, 90, outL_ none 0 0 outZ none 0 0⟩, ⟨w.heap.size, 48, msL_ M A3 m3 c3⟩] w8) := hide (HX2.out.call ho5 hB5)
        have k2 := HX8.out.k2
        unfold outL_ outZ at k2
        have zk2 := k2.lt
        clear kk_c0 kk_c1 kk_c2 kk_c3 kk_c4 kk_f
        obtain ⟨k2_c0, k2_c1, k2_c2, k2_c3, k2_c4⟩ := cel5 k2
        have k2_f := k2.frozen
        clear hO5 hB5 ho5 HX2 HK2
        have HND : Hid (downS L S M = { S with st := 3, ix := M.ix, sub := M.sub, wk := 12, wi := M.ix, ws := M.sub, wt := false }) := hide (by
          unfold downS
          rw [if_neg (by rw [HDC.out]; simp), if_pos HDD.out])
        have HR : Hid (P = ROutR w G p pd (downS L S M) ⟨[], true, M.ix, M.sub, M.data⟩) := hide (by
          rw [HP.out]
          congr 1
          unfold downO
          rw [if_neg (by rw [HDC.out]; simp), if_pos HDD.out])
        go_wp2_with fail
        obtain ⟨F1, F2⟩ := rfin (G := G) (S' := downS L S M) (O := ⟨[], true, M.ix, M.sub, M.data⟩) (HX8.out.sub (ks' := [⟨w.heap.size + 1, 90, outL_ none 0 0 outZ none 0 0⟩]) (by simp)) hz (.inl ⟨rfl, rfl, rfl, rfl⟩) HO5.out (by
          rw [HND.out]
          exact ⟨rfl, fun _ => ⟨rfl, rfl⟩, fun h => absurd h (show ¬ (3 : Int) = 1 by decide), fun h => absurd h (show ¬ (3 : Int) = 2 by decide), fun _ => rfl⟩) (fun h => absurd h (show ¬ ((3 : Int) = 1 ∨ (3 : Int) = 2) by decide))
        rw [← HR.out] at F2
        unfold putO at F1 F2
        dsimp only at F1 F2
        exact rret_out (O := ⟨[], true, M.ix, M.sub, M.data⟩) rfl rfl rfl F1 F2
    · have HDC : Hid (dcode L M = (k0 : Int)) := hide (by unfold dcode; rw [if_neg (fun h => hk (by have := h.1; rw [hk0] at this; omega)), hk0])
      have HND : Hid (downS L S M = S) := hide (by unfold downS; rw [if_pos (by rw [HDC.out]; omega)])
      have HR : Hid (P = ROutR w G p pd S (outM (abM M.ix M.sub k0))) := hide (by
        rw [HP.out, HND.out]
        congr 1
        unfold downO
        rw [if_pos (by rw [HDC.out]; omega), HDC.out]
        rfl)
      have hkz : ¬ (k0 : Int) = 0 := by omega
      clear hE hk0
      go_wp2_with fail
      refine (rsg_refuse M A3 m3 c3 k0 _).mono ?_
      rintro e w8 ⟨g8, hg8, rfl, hM8, hb8⟩
      unfold outV outZ
      dsimp only
      have HX8 := hide (HXW.out.step hb8)
      have zg8 : w.heap.size + 2 ≤ g8 := by omega
      have HM8 := hide hM8
      have k2 := HX8.out.k1
      unfold outL_ outZ at k2
      have zk2 := k2.lt
      clear kk_c0 kk_c1 kk_c2 kk_c3 kk_c4 kk_f
      obtain ⟨k2_c0, k2_c1, k2_c2, k2_c3, k2_c4⟩ := cel5 k2
      have k2_f := k2.frozen
      clear hM8 hb8
      go_wp2_with fail
      obtain ⟨F1, F2⟩ := rfin (G := G) (S' := S) (O := outM (abM M.ix M.sub k0)) (HX8.out.sub (ks' := [⟨w.heap.size + 1, 90, outL_ none 0 0 outZ none 0 0⟩]) (by simp)) hz (rmsR_one zg8 HM8.out (OwnB.nil _ _)) (OwnB.nil _ _) (Ali.idle HS0.out HR0.out) (fun h => by have := HR0.out; rcases h with h | h <;> (try simp at h) <;> omega)
      rw [← HR.out] at F2
      unfold putO outM at F1 F2
      dsimp only at F1 F2
      exact rret_out (O := outM (abM M.ix M.sub k0)) rfl rfl rfl F1 F2
end
end Go.Proofs.YtimdmhhgomfijaaGreat

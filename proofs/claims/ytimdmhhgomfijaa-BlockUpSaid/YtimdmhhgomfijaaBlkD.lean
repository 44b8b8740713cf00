/- Package block: down. -/
import Derived.Test.YtimdmhhgomfijaaBlkC
import Derived.Test.YtimdmhhgomfijaaSegG
namespace Go.Proofs.Ytimdmhhgomfijaa
set_option linter.unusedVariables false
set_option linter.unusedSimpArgs false
set_option linter.unnecessarySimpa false
open Go.RowKit
set_option maxRecDepth 100000
set_option maxHeartbeats 4000000
/-- a server at block p over the dictionary at block pd; its bytes, where they count, lie in blocks of G -/
def BV_ (w : World) (G : Nat → Prop) (p pd : Nat) (S : BlkS) : Prop :=
  ∃ A n c, Blk w p 73 (bsrV S pd A n c) ∧ (S.st ≠ 0 → n = S.b.length ∧ n ≤ c ∧ Sl w A (S.b.map bv) ∧ (A = none → n = 0) ∧ ∀ ad, A = some ad → G ad.block ∧ ad.block < w.heap.size ∧ ad.block ≠ p)
/-- what comes of a message -/
def BOutR (w : World) (G : Nat → Prop) (p pd : Nat) (S' : BlkS) (O : SegO) (e : Ending) (w' : World) : Prop :=
  ∃ X As ns cs A n c, e = .returned (.agg (outV As ns cs O A n c)) ∧ MsR w' w.heap.size X As ns cs O.ms ∧ OwnB w' w.heap.size A n c O.b ∧ FIn X A ∧ BV_ w' (fun g => (G g ∨ w.heap.size ≤ g) ∧ ¬ X g) p pd S' ∧ Only (fun g => g = p) w w'
theorem BV_.keep {w w' : World} {G H : Nat → Prop} {p pd : Nat} {S : BlkS} (h : BV_ w G p pd S) (hk : ∀ q, q = p ∨ G q → q < w.heap.size → w'.heap[q]? = w.heap[q]?) (hz : w.heap.size ≤ w'.heap.size) (hH : ∀ q, q < w.heap.size → G q → H q) : BV_ w' H p pd S := by
  obtain ⟨A, n, c, hB, hb⟩ := h
  refine ⟨A, n, c, (hk p (.inl rfl) hB.lt).trans hB, fun h0 => ?_⟩
  obtain ⟨h1, h2, h3, h4, h5⟩ := hb h0
  exact ⟨h1, h2, sl_blk h3 (fun ad e => hk _ (.inr (h5 ad e).1) (h5 ad e).2.1), h4, fun ad e => ⟨hH _ (h5 ad e).2.1 (h5 ad e).1, Nat.lt_of_lt_of_le (h5 ad e).2.1 hz, (h5 ad e).2.2⟩⟩
/-- the server's block apart from its bytes: of a world -/
theorem bv_sets {W : World} {G : Nat → Prop} {p pd : Nat} {S : BlkS} {A : Option Addr} {n c : Nat} (hB : Blk W p 73 (bsrV S pd A n c)) (hb : S.st ≠ 0 → n = S.b.length ∧ n ≤ c ∧ Sl W A (S.b.map bv) ∧ (A = none → n = 0) ∧ ∀ ad, A = some ad → G ad.block ∧ ad.block < W.heap.size ∧ ad.block ≠ p) : BV_ W G p pd S := ⟨A, n, c, hB, hb⟩
theorem bv_idle {W : World} {G : Nat → Prop} {p pd : Nat} {S : BlkS} {A : Option Addr} {n c : Nat} (h : Blk W p 73 (bsrV (blkIdle S) pd A n c)) : BV_ W G p pd (blkIdle S) := ⟨A, n, c, h, fun h => absurd rfl h⟩
theorem bfin_send {w w3 : World} {G : Nat → Prop} {p pd g n c : Nat} {S' : BlkS} {M : Ms} {A : Option Addr} (X : Nat → Prop) (hK : Blk w3 (w.heap.size + 1) 44 (outV none 0 0 outZ none 0 0)) (hg : w.heap.size + 2 ≤ g) (hM : Blk w3 g 39 (msV M A n c)) (hO : OwnB w3 (w.heap.size + 2) A n c M.data) (hX : FIn X A)
    (hS : BV_ w3 (fun q => ((G q ∨ w.heap.size ≤ q) ∧ ¬ X q) ∧ q ≠ w.heap.size + 1) p pd S') (ho : Only (fun q => q = p) w w3) (hp : p < w.heap.size) :
    Blk (putO w3 (w.heap.size + 1) (some ⟨g, 0, none⟩) 1 1 outZ none 0 0) (w.heap.size + 1) 44 (outV (some ⟨g, 0, none⟩) 1 1 outZ none 0 0) ∧ BOutR w G p pd S' (outM M) (.returned (.agg (outV (some ⟨g, 0, none⟩) 1 1 outZ none 0 0))) (putO w3 (w.heap.size + 1) (some ⟨g, 0, none⟩) 1 1 outZ none 0 0) := by
  refine ⟨putO_blk hK, X, some ⟨g, 0, none⟩, 1, 1, none, 0, 0, rfl, .inr ⟨M, g, A, n, c, rfl, rfl, rfl, rfl, by omega, putO_far hM (by omega) _ _ _ _ _ _ _, (putO_own hO (by omega) _ _ _ _ _ _ _).mono (by omega), hX⟩, OwnB.nil _ _, FIn.nil _, ?_, putO_only ho (by omega) _ _ _ _ _ _ _⟩
  exact hS.keep (fun q hq _ => putO_heap (by rcases hq with rfl | hq; omega; exact hq.2) _ _ _ _ _ _ _) (by rw [putO_size]; exact Nat.le_refl _) (fun q _ hq => hq.1)
theorem bfin_none {w w3 : World} {G : Nat → Prop} {p pd : Nat} {S' : BlkS} (hK : Blk w3 (w.heap.size + 1) 44 (outV none 0 0 outZ none 0 0)) (hS : BV_ w3 (fun q => (G q ∨ w.heap.size ≤ q) ∧ q ≠ w.heap.size + 1) p pd S') (ho : Only (fun q => q = p) w w3) (hp : p < w.heap.size) :
    Blk (putO w3 (w.heap.size + 1) none 0 0 outZ none 0 0) (w.heap.size + 1) 44 (outV none 0 0 outZ none 0 0) ∧ BOutR w G p pd S' outZ (.returned (.agg (outV none 0 0 outZ none 0 0))) (putO w3 (w.heap.size + 1) none 0 0 outZ none 0 0) := by
  refine ⟨putO_blk hK, fun _ => False, none, 0, 0, none, 0, 0, rfl, .inl ⟨rfl, rfl, rfl, rfl⟩, OwnB.nil _ _, FIn.nil _, ?_, putO_only ho (by omega) _ _ _ _ _ _ _⟩
  exact hS.keep (fun q hq _ => putO_heap (by rcases hq with rfl | hq; omega; exact hq.2) _ _ _ _ _ _ _) (by rw [putO_size]; exact Nat.le_refl _) (fun q _ hq => ⟨hq.1, id⟩)
/-- a write that is told: its bytes lie in a row that is new -/
theorem bfin_write {w w3 : World} {G : Nat → Prop} {p pd : Nat} {S' : BlkS} {ix sub : Int} {b : List UInt8} {A : Option Addr} {n c : Nat} (X : Nat → Prop) (hK : Blk w3 (w.heap.size + 1) 44 (outV none 0 0 outZ none 0 0)) (hO : OwnB w3 (w.heap.size + 2) A n c b) (hX : FIn X A)
    (hS : BV_ w3 (fun q => ((G q ∨ w.heap.size ≤ q) ∧ ¬ X q) ∧ q ≠ w.heap.size + 1) p pd S') (ho : Only (fun q => q = p) w w3) (hp : p < w.heap.size) :
    Blk (putO w3 (w.heap.size + 1) none 0 0 ⟨[], true, ix, sub, b⟩ A n c) (w.heap.size + 1) 44 (outV none 0 0 ⟨[], true, ix, sub, b⟩ A n c) ∧ BOutR w G p pd S' ⟨[], true, ix, sub, b⟩ (.returned (.agg (outV none 0 0 ⟨[], true, ix, sub, b⟩ A n c))) (putO w3 (w.heap.size + 1) none 0 0 ⟨[], true, ix, sub, b⟩ A n c) := by
  refine ⟨putO_blk hK, X, none, 0, 0, A, n, c, rfl, .inl ⟨rfl, rfl, rfl, rfl⟩, (putO_own hO (by omega) _ _ _ _ _ _ _).mono (by omega), hX, ?_, putO_only ho (by omega) _ _ _ _ _ _ _⟩
  exact hS.keep (fun q hq _ => putO_heap (by rcases hq with rfl | hq; omega; exact hq.2) _ _ _ _ _ _ _) (by rw [putO_size]; exact Nat.le_refl _) (fun q _ hq => hq.1)
/-- inside a method: the server's block, and blocks that stand -/
def BX (w : World) (p pd : Nat) (K : Nat → TypeId → Array Value → Prop) (S : BlkS) (A : Option Addr) (n c : Nat) (W : World) : Prop :=
  Only (fun q => q = p) w W ∧ Blk W p 73 (bsrV S pd A n c) ∧ (∀ q t cs, K q t cs → q ≠ p ∧ Blk W q t cs) ∧ w.heap.size + 2 ≤ W.heap.size
theorem BX.step {w W W' : World} {p pd : Nat} {K : Nat → TypeId → Array Value → Prop} {S : BlkS} {A : Option Addr} {n c : Nat} (h : BX w p pd K S A n c W) (hb : Below W.heap.size W W') : BX w p pd K S A n c W' :=
  ⟨h.1.step hb, h.2.1.below hb h.2.1.lt, fun q t cs hq => ⟨(h.2.2.1 q t cs hq).1, (h.2.2.1 q t cs hq).2.below hb (h.2.2.1 q t cs hq).2.lt⟩, Nat.le_trans h.2.2.2 hb.size⟩
theorem BX.sets {w W : World} {p pd : Nat} {K : Nat → TypeId → Array Value → Prop} {S S' : BlkS} {A A' : Option Addr} {n c n' c' : Nat} (h : BX w p pd K S A n c W) (vs : List Value) (o : Nat) (hl : o + vs.length ≤ 12) (he : ((bsrV S pd A n c).toList.take o ++ vs ++ (bsrV S pd A n c).toList.drop (o + vs.length)).toArray = bsrV S' pd A' n' c') : BX w p pd K S' A' n' c' (W.setCells p o vs) := by
  have s := blk_sets vs o (l := (bsrV S pd A n c).toList) h.2.1 (by simpa [bsrV] using hl)
  rw [he] at s
  have o1 : Only (fun q => q = p) W (W.setCells p o vs) := only_sets (F := fun q => q = p) rfl _ _ (Only.refl _ _)
  exact ⟨h.1.trans o1 (fun _ _ h => h), s, fun q t cs hq => ⟨(h.2.2.1 q t cs hq).1, blk_only (h.2.2.1 q t cs hq).2 o1 (h.2.2.1 q t cs hq).1⟩, by rw [size_sets]; exact h.2.2.2⟩
theorem BX.drew {w W : World} {p pd : Nat} {K : Nat → TypeId → Array Value → Prop} {S : BlkS} {A : Option Addr} {n c : Nat} (h : BX w p pd K S A n c W) : BX w p pd K S A n c W.drew := ⟨h.1.drew, h.2.1, h.2.2.1, h.2.2.2⟩
theorem bx_calls {w : World} {p pd : Nat} {K : Nat → TypeId → Array Value → Prop} {S : BlkS} {A : Option Addr} {n c : Nat} {W0 : World} {f : Nat} {args : Array Value} {Q : Ending → World → Prop} (h : BX w p pd K S A n c W0) (k : ∀ W, BX w p pd K S A n c W → Calls Try.prog f args W Q) : Calls Try.prog f args W0 Q := k _ h
/-- what stands: the message, the answer -/
def KMO (w : World) (M : Ms) (A3 : Option Addr) (m3 c3 : Nat) (q : Nat) (t : TypeId) (cs : Array Value) : Prop :=
  (q = w.heap.size ∧ t = 39 ∧ cs = msV M A3 m3 c3) ∨ (q = w.heap.size + 1 ∧ t = 44 ∧ cs = outV none 0 0 outZ none 0 0)
theorem bx_mk {w : World} {p pd : Nat} {S : BlkS} {A : Option Addr} {n1 c1 : Nat} (M : Ms) (A3 : Option Addr) (m3 c3 : Nat) (hB : Blk w p 73 (bsrV S pd A n1 c1)) :
    BX w p pd (KMO w M A3 m3 c3) S A n1 c1 ((w.alloc (.cells (msV M A3 m3 c3) 39)).alloc (.cells (outV none 0 0 outZ none 0 0) 44)) := by
  obtain ⟨k1, k2⟩ := blk_two w 39 44 (msV M A3 m3 c3) (outV none 0 0 outZ none 0 0)
  have hbw := below_alloc (below_alloc (Below.refl w.heap.size w) (.cells (msV M A3 m3 c3) 39)) (.cells (outV none 0 0 outZ none 0 0) 44)
  have hz := hB.lt
  refine ⟨Only.of_below hbw, hB.below hbw hB.lt, ?_, by simp⟩
  rintro q t cs (⟨rfl, rfl, rfl⟩ | ⟨rfl, rfl, rfl⟩)
  · exact ⟨by omega, k1⟩
  · exact ⟨by omega, k2⟩
theorem BX.msg {w W : World} {p pd : Nat} {M : Ms} {A3 : Option Addr} {m3 c3 : Nat} {S : BlkS} {A : Option Addr} {n c : Nat} (h : BX w p pd (KMO w M A3 m3 c3) S A n c W) : Blk W w.heap.size 39 (msV M A3 m3 c3) := (h.2.2.1 _ _ _ (.inl ⟨rfl, rfl, rfl⟩)).2
theorem BX.out {w W : World} {p pd : Nat} {M : Ms} {A3 : Option Addr} {m3 c3 : Nat} {S : BlkS} {A : Option Addr} {n c : Nat} (h : BX w p pd (KMO w M A3 m3 c3) S A n c W) : Blk W (w.heap.size + 1) 44 (outV none 0 0 outZ none 0 0) := (h.2.2.1 _ _ _ (.inr ⟨rfl, rfl, rfl⟩)).2
theorem bdcode_nn (L : List Ent) (M : Ms) : ∃ k : Nat, bdcode L M = (k : Int) := by
  unfold bdcode
  split
  · exact fitsC_nn _ _
  · exact smayC_nn _ _ _
section
variable {F : Nat → Prop} {pd gl n cl cv : Nat} {Av : Option Addr} {L : List Ent} {V : List (List UInt8)} {ds es : List (Option Addr × Nat)}
theorem blk_down (p : Nat) (S : BlkS) (G : Nat → Prop) (M : Ms) (A3 : Option Addr) (m3 c3 : Nat) (w : World) (hD : DB 75 w F pd (some ⟨gl, 0, none⟩) n cl Av cv L V ds es) (hs : SortedE L) (hn : n ≤ 1000)
    (hp : ¬ F p) (hS : BV_ w G p pd S) (hsz : M.size ≤ 4294967295) :
    Calls Try.prog 43 #[.pointer (some ⟨p, 0, none⟩), .agg (msV M A3 m3 c3)] w (BOutR w G p pd (bdownS L S M) (bdownO L M)) := by
  obtain ⟨A, n1, c1, hB, hby⟩ := id hS
  obtain ⟨P, hP⟩ : ∃ P, P = BOutR w G p pd (bdownS L S M) (bdownO L M) := ⟨_, rfl⟩
  rw [← hP]
  have HP := hide hP
  have hz := hB.lt
  have HS0 : Hid (BV_ w G p pd S) := hide hS
  have HS := hide hs
  have H1 := hide hn
  have HD := hide (fun W (h : Only (fun q => q = p) w W) => hD.keep (w' := W) (fun g hg hlt => h.block g hlt (fun e => hp (e ▸ hg))))
  have HH := hide (bx_mk (S := S) (pd := pd) (A := A) (n1 := n1) (c1 := c1) M A3 m3 c3 hB)
  have HB0 := hide (below_alloc (below_alloc (Below.refl w.heap.size w) (.cells (msV M A3 m3 c3) 39)) (.cells (outV none 0 0 outZ none 0 0) 44))
  clear hP hS hB hby hD hs hn
  unfold msV outV outZ at HH HB0
  unfold msV
  go_enter Try.func43, Try.ntmps43
  go_wp2_with fail
  refine wp_gen (P := fun W => BX w p pd (KMO w M A3 m3 c3) S A n1 c1 W ∧ Below w.heap.size w W) ⟨HH.out, HB0.out⟩ (fun W hW => ?_)
  clear HH HB0
  obtain ⟨hX, hbw⟩ := hW
  have HX := hide hX
  have HBW := hide hbw
  have hK1 := hX.msg
  have zW := hX.2.1.lt
  have zK := hX.out.lt
  have zK1 := hK1.lt
  have b0 : W.cell? ⟨p, 6, none⟩ = some (.pointer (some ⟨pd, 0, none⟩)) := hX.2.1.cell 6 rfl
  have b1 : W.cell? ⟨w.heap.size, 1, none⟩ = some (.int .i64 M.ix) := hK1.cell 1 rfl
  have b2 : W.cell? ⟨w.heap.size, 2, none⟩ = some (.int .i64 M.sub) := hK1.cell 2 rfl
  have HDW := hide (HD.out W hX.1)
  clear hX hK1 hbw
  go_cut [5, 6] (fun s5 s6 wx => DwnC W L M.ix M.sub s5 s6 wx)
  case first =>
    refine wp_region_held_drew (S := (fun w' => (∀ qA : Addr, qA.block < (W).heap.size → w'.cell? qA = (W).cell? qA) ∧ Below (W).heap.size (W) w')) (by kernel_rfl) ?hS1 (fun hHeld => ?rest1)
    case hS1 => ((try dsimp only); (((try go_split_ands); refine sn_of ?_; repeat' (first | with_reducible assumption | with_reducible exact Below.refl _ _ | with_reducible apply below_alloc | with_reducible apply below_drew1 | with_reducible apply below_drewN | (with_reducible apply below_step; with_reducible assumption) | (with_reducible apply below_sg2; (first | exact Nat.le_refl _ | (simp; done) | omega))))))
    case' rest1 => skip
    refine wpAnyH_take (i := 0) (oi := _) (v := ?v2) rfl (by kernel_rfl) (by kernel_rfl) (by kernel_rfl) (fun _ _ _ h => h) (Or.inl ⟨by rfl, ?hy2⟩) (by assumption) ?rest2
    case hy2 => ((intro w hSw; (try dsimp only at hSw); go_simp) <;> with_reducible rfl)
    case' rest2 => try simp only [List.getElem_toArray, List.getElem_cons_zero, List.getElem_cons_succ, Act.put, List.setIfInBounds_toArray, List.set_cons_zero, List.set_cons_succ]
    refine wpAnyH_take (i := 1) (oi := _) (v := ?v3) rfl (by kernel_rfl) (by kernel_rfl) (by kernel_rfl) (fun _ _ _ h => h) (Or.inl ⟨by rfl, ?hy3⟩) (by assumption) ?rest3
    case hy3 => ((intro w hSw; (try dsimp only at hSw); go_simp) <;> with_reducible rfl)
    case' rest3 => try simp only [List.getElem_toArray, List.getElem_cons_zero, List.getElem_cons_succ, Act.put, List.setIfInBounds_toArray, List.set_cons_zero, List.set_cons_succ]
    refine wpAnyH_take (i := 2) (oi := _) (v := ?v4) rfl (by kernel_rfl) (by kernel_rfl) (by kernel_rfl) (fun _ _ _ h => h) (Or.inl ⟨by rfl, ?hy4⟩) (by assumption) ?rest4
    case hy4 => ((intro w hSw; (try dsimp only at hSw); go_simp) <;> with_reducible rfl)
    case' rest4 => try simp only [List.getElem_toArray, List.getElem_cons_zero, List.getElem_cons_succ, Act.put, List.setIfInBounds_toArray, List.set_cons_zero, List.set_cons_succ]
    refine wpAnyH_take (i := 3) (oi := _) (v := ?v5) rfl (by kernel_rfl) (by kernel_rfl) (by kernel_rfl) (fun _ _ _ h => h) (Or.inl ⟨by rfl, ?hy5⟩) (by assumption) ?rest5
    case hy5 => ((intro w hSw; (try dsimp only at hSw); go_simp) <;> with_reducible rfl)
    case' rest5 => try simp only [List.getElem_toArray, List.getElem_cons_zero, List.getElem_cons_succ, Act.put, List.setIfInBounds_toArray, List.set_cons_zero, List.set_cons_succ]
    refine wpAnyH_take (i := 4) (oi := _) (v := ?v6) rfl (by kernel_rfl) (by kernel_rfl) (by kernel_rfl) (fun _ _ _ h => h) (Or.inl ⟨by rfl, ?hy6⟩) (by assumption) ?rest6
    case hy6 => ((intro w hSw; (try dsimp only at hSw); go_simp) <;> with_reducible rfl)
    case' rest6 => try simp only [List.getElem_toArray, List.getElem_cons_zero, List.getElem_cons_succ, Act.put, List.setIfInBounds_toArray, List.set_cons_zero, List.set_cons_succ]
    refine wpAnyH_take (i := 5) (oi := _) (v := ?v7) rfl (by kernel_rfl) (by kernel_rfl) (by kernel_rfl) (fun _ _ _ h => h) (Or.inl ⟨by rfl, ?hy7⟩) (by assumption) ?rest7
    case hy7 => ((intro w hSw; (try dsimp only at hSw); go_simp) <;> with_reducible rfl)
    case' rest7 => try simp only [List.getElem_toArray, List.getElem_cons_zero, List.getElem_cons_succ, Act.put, List.setIfInBounds_toArray, List.set_cons_zero, List.set_cons_succ]
    refine wpAnyH_take (i := 6) (oi := _) (v := ?v8) rfl (by kernel_rfl) (by kernel_rfl) (by kernel_rfl) (fun _ _ _ h => h) (Or.inl ⟨by rfl, ?hy8⟩) (by assumption) ?rest8
    case hy8 => ((intro w hSw; (try dsimp only at hSw); go_simp) <;> with_reducible rfl)
    case' rest8 => try simp only [List.getElem_toArray, List.getElem_cons_zero, List.getElem_cons_succ, Act.put, List.setIfInBounds_toArray, List.set_cons_zero, List.set_cons_succ]
    refine wpAnyH_take (i := 7) (oi := _) (v := ?v9) rfl (by kernel_rfl) (by kernel_rfl) (by kernel_rfl) (fun _ _ _ h => h) (Or.inl ⟨by rfl, ?hy9⟩) (by assumption) ?rest9
    case hy9 => ((intro w hSw; (try dsimp only at hSw); go_simp) <;> with_reducible rfl)
    case' rest9 => try simp only [List.getElem_toArray, List.getElem_cons_zero, List.getElem_cons_succ, Act.put, List.setIfInBounds_toArray, List.set_cons_zero, List.set_cons_succ]
    refine wpAnyH_ready (rs := [8, 12]) (by kernel_rfl) (by simp) (AllReadyH.cons (o := _) rfl (fun K hK => ?_) (AllReadyH.cons (o := _) rfl (fun K hK => ?_) AllReadyH.nil))
    · go_simp
      refine (seg_may M.ix M.sub _ (HDW.out.below (Below.drew (Below.refl _ _))) HS.out H1.out).mono ?_
      rintro e w3 ⟨E, A4, n4, c4, rfl, hE, hb3⟩
      unfold entV
      dsimp only
      replace hb3 := below_undrew hb3
      have HE := hide hE
      clear hE
      refine hK.out _ _ ?hS11 (fun hHeld => ?rest11)
      case hS11 => ((try dsimp only); (((try go_split_ands); refine sn_of ?_; repeat' (first | with_reducible assumption | with_reducible exact Below.refl _ _ | with_reducible apply below_alloc | with_reducible apply below_drew1 | with_reducible apply below_drewN | (with_reducible apply below_step; with_reducible assumption) | (with_reducible apply below_sg2; (first | exact Nat.le_refl _ | (simp; done) | omega))))))
      case' rest11 => (clear hK K; try simp only [List.getElem_toArray, List.getElem_cons_zero, List.getElem_cons_succ, Act.put, List.setIfInBounds_toArray, List.set_cons_zero, List.set_cons_succ])
      refine wpAnyH_take (i := 9) (oi := _) (v := ?v12) rfl (by kernel_rfl) (by kernel_rfl) (by kernel_rfl) (fun _ _ _ h => h) (Or.inl ⟨by rfl, ?hy12⟩) (by assumption) ?rest12
      case hy12 => ((intro w hSw; (try dsimp only at hSw); go_simp) <;> with_reducible rfl)
      case' rest12 => try simp only [List.getElem_toArray, List.getElem_cons_zero, List.getElem_cons_succ, Act.put, List.setIfInBounds_toArray, List.set_cons_zero, List.set_cons_succ]
      refine wpAnyH_take (i := 10) (oi := _) (v := ?v13) rfl (by kernel_rfl) (by kernel_rfl) (by kernel_rfl) (fun _ _ _ h => h) (Or.inl ⟨by rfl, ?hy13⟩) (by assumption) ?rest13
      case hy13 => ((intro w hSw; (try dsimp only at hSw); go_simp) <;> with_reducible rfl)
      case' rest13 => try simp only [List.getElem_toArray, List.getElem_cons_zero, List.getElem_cons_succ, Act.put, List.setIfInBounds_toArray, List.set_cons_zero, List.set_cons_succ]
      refine wpAnyH_take (i := 11) (oi := _) (v := ?v14) rfl (by kernel_rfl) (by kernel_rfl) (by kernel_rfl) (fun _ _ _ h => h) (Or.inl ⟨by rfl, ?hy14⟩) (by assumption) ?rest14
      case hy14 => ((intro w hSw; (try dsimp only at hSw); go_simp) <;> with_reducible rfl)
      case' rest14 => try simp only [List.getElem_toArray, List.getElem_cons_zero, List.getElem_cons_succ, Act.put, List.setIfInBounds_toArray, List.set_cons_zero, List.set_cons_succ]
      refine wpAnyH_ready (rs := [12]) (by kernel_rfl) (by simp) ?_
      refine AllReadyH.cons (o := _) rfl (fun K hK => ?_) AllReadyH.nil
      go_simp
      refine hK.out _ _ ?hS17 (fun hHeld => ?rest17)
      case hS17 => ((try dsimp only); (((try go_split_ands); refine sn_of ?_; repeat' (first | with_reducible assumption | with_reducible exact Below.refl _ _ | with_reducible apply below_alloc | with_reducible apply below_drew1 | with_reducible apply below_drewN | (with_reducible apply below_step; with_reducible assumption) | (with_reducible apply below_sg2; (first | exact Nat.le_refl _ | (simp; done) | omega))))))
      case' rest17 => (clear hK K; try simp only [List.getElem_toArray, List.getElem_cons_zero, List.getElem_cons_succ, Act.put, List.setIfInBounds_toArray, List.set_cons_zero, List.set_cons_succ])
      refine wpAnyH_ready (rs := [13]) (by kernel_rfl) (by simp) ?_
      refine AllReadyH.cons (o := _) rfl (fun K hK => ?_) AllReadyH.nil
      go_simp
      refine hK.out _ _ ?hS20 (fun hHeld => ?rest20)
      case hS20 => ((try dsimp only); (((try go_split_ands); refine sn_of ?_; repeat' (first | with_reducible assumption | with_reducible exact Below.refl _ _ | with_reducible apply below_alloc | with_reducible apply below_drew1 | with_reducible apply below_drewN | (with_reducible apply below_step; with_reducible assumption) | (with_reducible apply below_sg2; (first | exact Nat.le_refl _ | (simp; done) | omega))))))
      case' rest20 => (clear hK K; try simp only [List.getElem_toArray, List.getElem_cons_zero, List.getElem_cons_succ, Act.put, List.setIfInBounds_toArray, List.set_cons_zero, List.set_cons_succ])
      refine wpAnyH_take (i := 14) (oi := _) (v := ?v21) rfl (by kernel_rfl) (by kernel_rfl) (by kernel_rfl) (fun _ _ _ h => h) (Or.inl ⟨by rfl, ?hy21⟩) (by assumption) ?rest21
      case hy21 => ((intro w hSw; (try dsimp only at hSw); go_simp) <;> with_reducible rfl)
      case' rest21 => try simp only [List.getElem_toArray, List.getElem_cons_zero, List.getElem_cons_succ, Act.put, List.setIfInBounds_toArray, List.set_cons_zero, List.set_cons_succ]
      refine wpAnyH_done (by kernel_rfl) ?_ _
      have hEnd := hHeld.2
      repeat (clear hHeld)
      go_wp2_with fail
      go_meet
      exact dwnc_mk hb3 HE.out
    · go_simp
      refine hK.out _ _ ?hS23 (fun hHeld => ?rest23)
      case hS23 => ((try dsimp only); (((try go_split_ands); refine sn_of ?_; repeat' (first | with_reducible assumption | with_reducible exact Below.refl _ _ | with_reducible apply below_alloc | with_reducible apply below_drew1 | with_reducible apply below_drewN | (with_reducible apply below_step; with_reducible assumption) | (with_reducible apply below_sg2; (first | exact Nat.le_refl _ | (simp; done) | omega))))))
      case' rest23 => (clear hK K; try simp only [List.getElem_toArray, List.getElem_cons_zero, List.getElem_cons_succ, Act.put, List.setIfInBounds_toArray, List.set_cons_zero, List.set_cons_succ])
      refine wpAnyH_ready (rs := [8]) (by kernel_rfl) (by simp) ?_
      refine AllReadyH.cons (o := _) rfl (fun K hK => ?_) AllReadyH.nil
      go_simp
      refine (seg_may M.ix M.sub _ (HDW.out.below (by repeat' (first | with_reducible assumption | with_reducible exact Below.refl _ _ | with_reducible apply below_alloc | with_reducible apply below_drew1 | with_reducible apply below_drewN | (with_reducible apply below_step; with_reducible assumption) | (with_reducible apply below_sg2; (first | exact Nat.le_refl _ | (simp; done) | omega))))) HS.out H1.out).mono ?_
      rintro e w3 ⟨E, A4, n4, c4, rfl, hE, hb3⟩
      unfold entV
      dsimp only
      have hb5 : Below W.heap.size W w3 := below_zd (z := .cells (entV zeroE none 0 0) 24) (by simpa [entV, zeroE] using hb3)
      have hZ3 : Blk w3 W.heap.size 24 (entV zeroE none 0 0) := blk_zd (by simpa [entV, zeroE] using hb3)
      have HZ3 := hide hZ3
      have HE := hide hE
      unfold entV zeroE at hZ3
      have hZ3_c0 := hZ3.cell 0 rfl
      have hZ3_f0 := hZ3.frozen 0
      have hZ3_c1 := hZ3.cell 1 rfl
      have hZ3_f1 := hZ3.frozen 1
      have hZ3_c2 := hZ3.cell 2 rfl
      have hZ3_f2 := hZ3.frozen 2
      have hZ3_c3 := hZ3.cell 3 rfl
      have hZ3_f3 := hZ3.frozen 3
      have hZ3_c4 := hZ3.cell 4 rfl
      have hZ3_f4 := hZ3.frozen 4
      have hZ3_c5 := hZ3.cell 5 rfl
      have hZ3_f5 := hZ3.frozen 5
      have hZ3_c6 := hZ3.cell 6 rfl
      have hZ3_f6 := hZ3.frozen 6
      have hZ3_c7 := hZ3.cell 7 rfl
      have hZ3_f7 := hZ3.frozen 7
      have hZ3_c8 := hZ3.cell 8 rfl
      have hZ3_f8 := hZ3.frozen 8
      have hZ3_c9 := hZ3.cell 9 rfl
      have hZ3_f9 := hZ3.frozen 9
      have hZ3_c10 := hZ3.cell 10 rfl
      have hZ3_f10 := hZ3.frozen 10
      clear hE hb3
      refine hK.out _ _ ?hS26 (fun hHeld => ?rest26)
      case hS26 => ((try dsimp only); (((try go_split_ands); refine sn_of ?_; repeat' (first | with_reducible assumption | with_reducible exact Below.refl _ _ | with_reducible apply below_alloc | with_reducible apply below_drew1 | with_reducible apply below_drewN | (with_reducible apply below_step; with_reducible assumption) | (with_reducible apply below_sg2; (first | exact Nat.le_refl _ | (simp; done) | omega))))))
      case' rest26 => (clear hK K; try simp only [List.getElem_toArray, List.getElem_cons_zero, List.getElem_cons_succ, Act.put, List.setIfInBounds_toArray, List.set_cons_zero, List.set_cons_succ])
      refine wpAnyH_take (i := 9) (oi := _) (v := ?v27) rfl (by kernel_rfl) (by kernel_rfl) (by kernel_rfl) (fun _ _ _ h => h) (Or.inl ⟨by rfl, ?hy27⟩) (by assumption) ?rest27
      case hy27 => ((intro w hSw; (try dsimp only at hSw); go_simp) <;> with_reducible rfl)
      case' rest27 => try simp only [List.getElem_toArray, List.getElem_cons_zero, List.getElem_cons_succ, Act.put, List.setIfInBounds_toArray, List.set_cons_zero, List.set_cons_succ]
      refine wpAnyH_take (i := 10) (oi := _) (v := ?v28) rfl (by kernel_rfl) (by kernel_rfl) (by kernel_rfl) (fun _ _ _ h => h) (Or.inl ⟨by rfl, ?hy28⟩) (by assumption) ?rest28
      case hy28 => ((intro w hSw; (try dsimp only at hSw); go_simp) <;> with_reducible rfl)
      case' rest28 => try simp only [List.getElem_toArray, List.getElem_cons_zero, List.getElem_cons_succ, Act.put, List.setIfInBounds_toArray, List.set_cons_zero, List.set_cons_succ]
      refine wpAnyH_take (i := 11) (oi := _) (v := ?v29) rfl (by kernel_rfl) (by kernel_rfl) (by kernel_rfl) (fun _ _ _ h => h) (Or.inl ⟨by rfl, ?hy29⟩) (by assumption) ?rest29
      case hy29 => ((intro w hSw; (try dsimp only at hSw); go_simp) <;> with_reducible rfl)
      case' rest29 => try simp only [List.getElem_toArray, List.getElem_cons_zero, List.getElem_cons_succ, Act.put, List.setIfInBounds_toArray, List.set_cons_zero, List.set_cons_succ]
      refine wpAnyH_ready (rs := [13]) (by kernel_rfl) (by simp) ?_
      refine AllReadyH.cons (o := _) rfl (fun K hK => ?_) AllReadyH.nil
      go_simp
      refine hK.out _ _ ?hS32 (fun hHeld => ?rest32)
      case hS32 => ((try dsimp only); (((try go_split_ands); refine sn_of ?_; repeat' (first | with_reducible assumption | with_reducible exact Below.refl _ _ | with_reducible apply below_alloc | with_reducible apply below_drew1 | with_reducible apply below_drewN | (with_reducible apply below_step; with_reducible assumption) | (with_reducible apply below_sg2; (first | exact Nat.le_refl _ | (simp; done) | omega))))))
      case' rest32 => (clear hK K; try simp only [List.getElem_toArray, List.getElem_cons_zero, List.getElem_cons_succ, Act.put, List.setIfInBounds_toArray, List.set_cons_zero, List.set_cons_succ])
      refine wpAnyH_take (i := 14) (oi := _) (v := ?v33) rfl (by kernel_rfl) (by kernel_rfl) (by kernel_rfl) (fun _ _ _ h => h) (Or.inl ⟨by rfl, ?hy33⟩) (by assumption) ?rest33
      case hy33 => ((intro w hSw; (try dsimp only at hSw); go_simp) <;> with_reducible rfl)
      case' rest33 => try simp only [List.getElem_toArray, List.getElem_cons_zero, List.getElem_cons_succ, Act.put, List.setIfInBounds_toArray, List.set_cons_zero, List.set_cons_succ]
      refine wpAnyH_done (by kernel_rfl) ?_ _
      have hEnd := hHeld.2
      repeat (clear hHeld)
      go_wp2_with fail
      go_meet
      have F := dwnc_mk2 (L := L) (ix := M.ix) (sub := M.sub) (A4 := A4) (n4 := n4) (c4 := c4) hb5 HZ3.out HE.out
      unfold put11 at F
      exact F
  case rest =>
    obtain ⟨ge, E, A4, n4, c4, rfl, rfl, hge, hEb, hE, hbx⟩ := hcut
    have HXW := hide (HX.out.step hbx)
    have hbwy := below_step hbx HBW.out
    have hne0 : w.heap.size ≠ p := by omega
    have hgp : ge ≠ p := by have := HX.out.2.2.2; omega
    have k1 := HXW.out.msg
    have bb := HXW.out.2.1
    have zk1 := k1.lt
    have zp := bb.lt
    have zE := hEb.lt
    have HEB := hide hEb
    unfold msV at k1
    unfold bsrV at bb
    unfold entV at hEb
    have k1_c0 := k1.cell 0 rfl
    have k1_f0 := k1.frozen 0
    have k1_c1 := k1.cell 1 rfl
    have k1_f1 := k1.frozen 1
    have k1_c2 := k1.cell 2 rfl
    have k1_f2 := k1.frozen 2
    have k1_c3 := k1.cell 3 rfl
    have k1_f3 := k1.frozen 3
    have k1_c4 := k1.cell 4 rfl
    have k1_f4 := k1.frozen 4
    have k1_c5 := k1.cell 5 rfl
    have k1_f5 := k1.frozen 5
    have k1_c6 := k1.cell 6 rfl
    have k1_f6 := k1.frozen 6
    have k1_c7 := k1.cell 7 rfl
    have k1_f7 := k1.frozen 7
    have k1_c8 := k1.cell 8 rfl
    have k1_f8 := k1.frozen 8
    have k1_c9 := k1.cell 9 rfl
    have k1_f9 := k1.frozen 9
    have k1_c10 := k1.cell 10 rfl
    have k1_f10 := k1.frozen 10
    have k1_c11 := k1.cell 11 rfl
    have k1_f11 := k1.frozen 11
    have k1_c12 := k1.cell 12 rfl
    have k1_f12 := k1.frozen 12
    have k1_c13 := k1.cell 13 rfl
    have k1_f13 := k1.frozen 13
    have hEb_c0 := hEb.cell 0 rfl
    have hEb_f0 := hEb.frozen 0
    have hEb_c1 := hEb.cell 1 rfl
    have hEb_f1 := hEb.frozen 1
    have hEb_c2 := hEb.cell 2 rfl
    have hEb_f2 := hEb.frozen 2
    have hEb_c3 := hEb.cell 3 rfl
    have hEb_f3 := hEb.frozen 3
    have hEb_c4 := hEb.cell 4 rfl
    have hEb_f4 := hEb.frozen 4
    have hEb_c5 := hEb.cell 5 rfl
    have hEb_f5 := hEb.frozen 5
    have hEb_c6 := hEb.cell 6 rfl
    have hEb_f6 := hEb.frozen 6
    have hEb_c7 := hEb.cell 7 rfl
    have hEb_f7 := hEb.frozen 7
    have hEb_c8 := hEb.cell 8 rfl
    have hEb_f8 := hEb.frozen 8
    have hEb_c9 := hEb.cell 9 rfl
    have hEb_f9 := hEb.frozen 9
    have hEb_c10 := hEb.cell 10 rfl
    have hEb_f10 := hEb.frozen 10
    have bb_c0 := bb.cell 0 rfl
    have bb_f0 := bb.frozen 0
    have bb_c1 := bb.cell 1 rfl
    have bb_f1 := bb.frozen 1
    have bb_c2 := bb.cell 2 rfl
    have bb_f2 := bb.frozen 2
    have bb_c3 := bb.cell 3 rfl
    have bb_f3 := bb.frozen 3
    have bb_c4 := bb.cell 4 rfl
    have bb_f4 := bb.frozen 4
    have bb_c5 := bb.cell 5 rfl
    have bb_f5 := bb.frozen 5
    have bb_c6 := bb.cell 6 rfl
    have bb_f6 := bb.frozen 6
    have bb_c7 := bb.cell 7 rfl
    have bb_f7 := bb.frozen 7
    have bb_c8 := bb.cell 8 rfl
    have bb_f8 := bb.frozen 8
    have bb_c9 := bb.cell 9 rfl
    have bb_f9 := bb.frozen 9
    have bb_c10 := bb.cell 10 rfl
    have bb_f10 := bb.frozen 10
    have bb_c11 := bb.cell 11 rfl
    have bb_f11 := bb.frozen 11
    obtain ⟨k0, hk0⟩ := smayC_nn L M.ix M.sub
    rw [hk0]
    by_cases hk : k0 = 0
    · have hsm : smayC L M.ix M.sub = 0 := by rw [hk0, hk]; rfl
      have HEK : Hid (E = entK L (locK L M.ix M.sub)) := hide (hE hsm)
      have HSM := hide hsm
      subst hk
      clear hE hk0 hsm
      cases hsz' : M.sz
      · have HDC : Hid (bdcode L M = 0) := hide (by unfold bdcode; rw [if_neg (by rw [hsz']; simp), HSM.out])
        have HSZ := hide hsz'
        have c3 : (wc.setCell ⟨p, 7, none⟩ (.int .i64 1)).cell? ⟨w.heap.size, 1, none⟩ = some (.int .i64 M.ix) := (k1.far (p := ⟨p, 7, none⟩) hne0 _).cell 1 rfl
        have c4' : (wc.setCell ⟨p, 7, none⟩ (.int .i64 1)).cell? ⟨w.heap.size, 2, none⟩ = some (.int .i64 M.sub) := (k1.far (p := ⟨p, 7, none⟩) hne0 _).cell 2 rfl
        have c5 : ((wc.setCell ⟨p, 7, none⟩ (.int .i64 1)).setCell ⟨p, 8, none⟩ (.int .i64 M.ix)).cell? ⟨w.heap.size, 1, none⟩ = some (.int .i64 M.ix) := ((k1.far (p := ⟨p, 7, none⟩) hne0 _).far (p := ⟨p, 8, none⟩) hne0 _).cell 1 rfl
        have c6 : ((wc.setCell ⟨p, 7, none⟩ (.int .i64 1)).setCell ⟨p, 8, none⟩ (.int .i64 M.ix)).cell? ⟨w.heap.size, 2, none⟩ = some (.int .i64 M.sub) := ((k1.far (p := ⟨p, 7, none⟩) hne0 _).far (p := ⟨p, 8, none⟩) hne0 _).cell 2 rfl
        have X7 := (HXW.out.sets (S' := { S with st := 1, ix := M.ix, sub := M.sub }) [.int .i64 1, .int .i64 M.ix, .int .i64 M.sub] 7 (by simp) rfl)
        have HX7 := hide X7.drew
        have hE7 : Blk (wc.setCells p 7 [.int .i64 1, .int .i64 M.ix, .int .i64 M.sub]) ge 24 (entV E A4 n4 c4) := blk_only hEb (only_sets (F := fun q => q = p) rfl _ _ (Only.refl _ _)) hgp
        have HE7 := hide hE7
        simp only [World.setCells, Nat.reduceAdd] at HX7 HE7
        clear X7 hE7
        go_wp2_with fail
        refine wp_region_T (fun w' => w'.cell? ⟨w.heap.size, 1, none⟩ = some (.int .i64 M.ix) ∧ w'.cell? ⟨w.heap.size, 2, none⟩ = some (.int .i64 M.sub)) [0, 1, 2, 3, 4, 5, 6, 7, 8, 10, 11, 13, 14] (by kernel_rfl) ?hS35 (fun hHeld => ?rest35)
        case hS35 => ((try dsimp only); exact ⟨k1_c1, k1_c2⟩)
        case' rest35 => skip
        refine wpAnyT_take (by kernel_rfl) (by kernel_rfl) (i := 0) (oi := _) (v := ?v36) rfl (by kernel_rfl) (by kernel_rfl) (by kernel_rfl) (fun _ _ _ h => h) (Or.inl ⟨by rfl, ?hy36⟩) (by assumption) ?rest36
        case hy36 => ((intro w hSw; (try dsimp only at hSw); go_simp) <;> with_reducible rfl)
        case' rest36 => try simp only [List.getElem_toArray, List.getElem_cons_zero, List.getElem_cons_succ, Act.put, List.setIfInBounds_toArray, List.set_cons_zero, List.set_cons_succ]
        refine wpAnyT_take (by kernel_rfl) (by kernel_rfl) (i := 1) (oi := _) (v := ?v37) rfl (by kernel_rfl) (by kernel_rfl) (by kernel_rfl) (fun _ _ _ h => h) (Or.inl ⟨by rfl, ?hy37⟩) (by assumption) ?rest37
        case hy37 => ((intro w hSw; (try dsimp only at hSw); go_simp) <;> with_reducible rfl)
        case' rest37 => try simp only [List.getElem_toArray, List.getElem_cons_zero, List.getElem_cons_succ, Act.put, List.setIfInBounds_toArray, List.set_cons_zero, List.set_cons_succ]
        refine wpAnyT_take (by kernel_rfl) (by kernel_rfl) (i := 2) (oi := _) (v := ?v38) rfl (by kernel_rfl) (by kernel_rfl) (by kernel_rfl) (fun _ _ _ h => h) (Or.inl ⟨by rfl, ?hy38⟩) (by assumption) ?rest38
        case hy38 => ((intro w hSw; (try dsimp only at hSw); go_simp) <;> with_reducible rfl)
        case' rest38 => try simp only [List.getElem_toArray, List.getElem_cons_zero, List.getElem_cons_succ, Act.put, List.setIfInBounds_toArray, List.set_cons_zero, List.set_cons_succ]
        refine wpAnyT_take (by kernel_rfl) (by kernel_rfl) (i := 3) (oi := _) (v := ?v39) rfl (by kernel_rfl) (by kernel_rfl) (by kernel_rfl) (fun _ _ _ h => h) (Or.inl ⟨by rfl, ?hy39⟩) (by assumption) ?rest39
        case hy39 => ((intro w hSw; (try dsimp only at hSw); go_simp) <;> with_reducible rfl)
        case' rest39 => try simp only [List.getElem_toArray, List.getElem_cons_zero, List.getElem_cons_succ, Act.put, List.setIfInBounds_toArray, List.set_cons_zero, List.set_cons_succ]
        refine wpAnyT_take (by kernel_rfl) (by kernel_rfl) (i := 4) (oi := _) (v := ?v40) rfl (by kernel_rfl) (by kernel_rfl) (by kernel_rfl) (fun _ _ _ h => h) (Or.inl ⟨by rfl, ?hy40⟩) (by assumption) ?rest40
        case hy40 => ((intro w hSw; (try dsimp only at hSw); go_simp) <;> with_reducible rfl)
        case' rest40 => try simp only [List.getElem_toArray, List.getElem_cons_zero, List.getElem_cons_succ, Act.put, List.setIfInBounds_toArray, List.set_cons_zero, List.set_cons_succ]
        refine wpAnyT_take (by kernel_rfl) (by kernel_rfl) (i := 5) (oi := _) (v := ?v41) rfl (by kernel_rfl) (by kernel_rfl) (by kernel_rfl) (fun _ _ _ h => h) (Or.inl ⟨by rfl, ?hy41⟩) (by assumption) ?rest41
        case hy41 => ((intro w hSw; (try dsimp only at hSw); go_simp) <;> with_reducible rfl)
        case' rest41 => try simp only [List.getElem_toArray, List.getElem_cons_zero, List.getElem_cons_succ, Act.put, List.setIfInBounds_toArray, List.set_cons_zero, List.set_cons_succ]
        refine wpAnyT_take (by kernel_rfl) (by kernel_rfl) (i := 6) (oi := _) (v := ?v42) rfl (by kernel_rfl) (by kernel_rfl) (by kernel_rfl) (fun _ _ _ h => h) (Or.inl ⟨by rfl, ?hy42⟩) (by assumption) ?rest42
        case hy42 => ((intro w hSw; (try dsimp only at hSw); go_simp) <;> with_reducible rfl)
        case' rest42 => try simp only [List.getElem_toArray, List.getElem_cons_zero, List.getElem_cons_succ, Act.put, List.setIfInBounds_toArray, List.set_cons_zero, List.set_cons_succ]
        refine wpAnyT_take (by kernel_rfl) (by kernel_rfl) (i := 7) (oi := _) (v := ?v43) rfl (by kernel_rfl) (by kernel_rfl) (by kernel_rfl) (fun _ _ _ h => h) (Or.inl ⟨by rfl, ?hy43⟩) (by assumption) ?rest43
        case hy43 => ((intro w hSw; (try dsimp only at hSw); go_simp) <;> with_reducible rfl)
        case' rest43 => try simp only [List.getElem_toArray, List.getElem_cons_zero, List.getElem_cons_succ, Act.put, List.setIfInBounds_toArray, List.set_cons_zero, List.set_cons_succ]
        refine wpAnyT_take (by kernel_rfl) (by kernel_rfl) (i := 8) (oi := _) (v := ?v44) rfl (by kernel_rfl) (by kernel_rfl) (by kernel_rfl) (fun _ _ _ h => h) (Or.inl ⟨by rfl, ?hy44⟩) (by assumption) ?rest44
        case hy44 => ((intro w hSw; (try dsimp only at hSw); go_simp) <;> with_reducible rfl)
        case' rest44 => try simp only [List.getElem_toArray, List.getElem_cons_zero, List.getElem_cons_succ, Act.put, List.setIfInBounds_toArray, List.set_cons_zero, List.set_cons_succ]
        refine wpAnyT_one (i := 9) (o := _) rfl (by kernel_rfl) (fun K hK => ?_)
        go_simp
        refine hK.out _ _ ?hS46 (fun hHeld => ?rest46)
        case hS46 => ((try dsimp only); (exact ⟨c3, c4'⟩))
        case' rest46 => (clear hK K; try simp only [List.getElem_toArray, List.getElem_cons_zero, List.getElem_cons_succ, Act.put, List.setIfInBounds_toArray, List.set_cons_zero, List.set_cons_succ])
        refine wpAnyT_take (by kernel_rfl) (by kernel_rfl) (i := 10) (oi := _) (v := ?v47) rfl (by kernel_rfl) (by kernel_rfl) (by kernel_rfl) (fun _ _ _ h => h) (Or.inl ⟨by rfl, ?hy47⟩) (by assumption) ?rest47
        case hy47 => ((intro w hSw; (try dsimp only at hSw); go_simp) <;> with_reducible rfl)
        case' rest47 => try simp only [List.getElem_toArray, List.getElem_cons_zero, List.getElem_cons_succ, Act.put, List.setIfInBounds_toArray, List.set_cons_zero, List.set_cons_succ]
        refine wpAnyT_take (by kernel_rfl) (by kernel_rfl) (i := 11) (oi := _) (v := ?v48) rfl (by kernel_rfl) (by kernel_rfl) (by kernel_rfl) (fun _ _ _ h => h) (Or.inl ⟨by rfl, ?hy48⟩) (by assumption) ?rest48
        case hy48 => ((intro w hSw; (try dsimp only at hSw); go_simp) <;> with_reducible rfl)
        case' rest48 => try simp only [List.getElem_toArray, List.getElem_cons_zero, List.getElem_cons_succ, Act.put, List.setIfInBounds_toArray, List.set_cons_zero, List.set_cons_succ]
        refine wpAnyT_one (i := 12) (o := _) rfl (by kernel_rfl) (fun K hK => ?_)
        go_simp
        refine hK.out _ _ ?hS50 (fun hHeld => ?rest50)
        case hS50 => ((try dsimp only); (exact ⟨c5, c6⟩))
        case' rest50 => (clear hK K; try simp only [List.getElem_toArray, List.getElem_cons_zero, List.getElem_cons_succ, Act.put, List.setIfInBounds_toArray, List.set_cons_zero, List.set_cons_succ])
        refine wpAnyT_take (by kernel_rfl) (by kernel_rfl) (i := 13) (oi := _) (v := ?v51) rfl (by kernel_rfl) (by kernel_rfl) (by kernel_rfl) (fun _ _ _ h => h) (Or.inl ⟨by rfl, ?hy51⟩) (by assumption) ?rest51
        case hy51 => ((intro w hSw; (try dsimp only at hSw); go_simp) <;> with_reducible rfl)
        case' rest51 => try simp only [List.getElem_toArray, List.getElem_cons_zero, List.getElem_cons_succ, Act.put, List.setIfInBounds_toArray, List.set_cons_zero, List.set_cons_succ]
        refine wpAnyT_take (by kernel_rfl) (by kernel_rfl) (i := 14) (oi := _) (v := ?v52) rfl (by kernel_rfl) (by kernel_rfl) (by kernel_rfl) (fun _ _ _ h => h) (Or.inl ⟨by rfl, ?hy52⟩) (by assumption) ?rest52
        case hy52 => ((intro w hSw; (try dsimp only at hSw); go_simp) <;> with_reducible rfl)
        case' rest52 => try simp only [List.getElem_toArray, List.getElem_cons_zero, List.getElem_cons_succ, Act.put, List.setIfInBounds_toArray, List.set_cons_zero, List.set_cons_succ]
        refine wpAnyT_late (i := 15) (o := _) rfl (by kernel_rfl) (by kernel_rfl) (fun K hK => ?_)
        go_simp
        refine hK.out _ _ ?rest54
        case' rest54 => (clear hK K; try simp only [List.getElem_toArray, List.getElem_cons_zero, List.getElem_cons_succ, Act.put, List.setIfInBounds_toArray, List.set_cons_zero, List.set_cons_succ])
        refine wpAnyT_done (by kernel_rfl) ?_ _
        repeat (clear hHeld)
        clear c3 c4' c5 c6
        go_upto_region 9 with fail
        refine wp_gen (P := fun W2 => BX w p pd (KMO w M A3 m3 c3) { S with st := 1, ix := M.ix, sub := M.sub } A n1 c1 W2 ∧ Blk W2 ge 24 (entV E A4 n4 c4)) ⟨HX7.out, HE7.out⟩ (fun W2 hW2 => ?_)
        clear k1_c0 k1_f0 k1_c1 k1_f1 k1_c2 k1_f2 k1_c3 k1_f3 k1_c4 k1_f4 k1_c5 k1_f5 k1_c6 k1_f6 k1_c7 k1_f7 k1_c8 k1_f8 k1_c9 k1_f9 k1_c10 k1_f10 k1_c11 k1_f11 k1_c12 k1_f12 k1_c13 k1_f13
        clear hEb_c0 hEb_f0 hEb_c1 hEb_f1 hEb_c2 hEb_f2 hEb_c3 hEb_f3 hEb_c4 hEb_f4 hEb_c5 hEb_f5 hEb_c6 hEb_f6 hEb_c7 hEb_f7 hEb_c8 hEb_f8 hEb_c9 hEb_f9 hEb_c10 hEb_f10
        clear bb_c0 bb_f0 bb_c1 bb_f1 bb_c2 bb_f2 bb_c3 bb_f3 bb_c4 bb_f4 bb_c5 bb_f5 bb_c6 bb_f6 bb_c7 bb_f7 bb_c8 bb_f8 bb_c9 bb_f9 bb_c10 bb_f10 bb_c11 bb_f11
        clear k1 hEb bb HX7 HE7
        obtain ⟨hX2, hEb⟩ := hW2
        have HX2 := hide hX2
        have zE2 := hEb.lt
        unfold entV at hEb
        have hEb_c0 := hEb.cell 0 rfl
        have hEb_f0 := hEb.frozen 0
        have hEb_c1 := hEb.cell 1 rfl
        have hEb_f1 := hEb.frozen 1
        have hEb_c2 := hEb.cell 2 rfl
        have hEb_f2 := hEb.frozen 2
        have hEb_c3 := hEb.cell 3 rfl
        have hEb_f3 := hEb.frozen 3
        have hEb_c4 := hEb.cell 4 rfl
        have hEb_f4 := hEb.frozen 4
        have hEb_c5 := hEb.cell 5 rfl
        have hEb_f5 := hEb.frozen 5
        have hEb_c6 := hEb.cell 6 rfl
        have hEb_f6 := hEb.frozen 6
        have hEb_c7 := hEb.cell 7 rfl
        have hEb_f7 := hEb.frozen 7
        have hEb_c8 := hEb.cell 8 rfl
        have hEb_f8 := hEb.frozen 8
        have hEb_c9 := hEb.cell 9 rfl
        have hEb_f9 := hEb.frozen 9
        have hEb_c10 := hEb.cell 10 rfl
        have hEb_f10 := hEb.frozen 10
        clear hX2
        go_wp2_with fail
        refine (seg_most E A4 n4 c4 _).mono ?_
        rintro e w8 ⟨rfl, hb8⟩
        obtain ⟨me, hme⟩ : ∃ me, me = mostE E := ⟨_, rfl⟩
        rw [← hme]
        have HME := hide hme
        have HX8 := hide (HX2.out.step hb8)
        clear hEb_c0 hEb_f0 hEb_c1 hEb_f1 hEb_c2 hEb_f2 hEb_c3 hEb_f3 hEb_c4 hEb_f4 hEb_c5 hEb_f5 hEb_c6 hEb_f6 hEb_c7 hEb_f7 hEb_c8 hEb_f8 hEb_c9 hEb_f9 hEb_c10 hEb_f10
        clear hEb hme hb8
        have X9 := (HX8.out.sets (S' := { S with st := 1, ix := M.ix, sub := M.sub, mo := me, sz := (-1), nx := 1 }) [.int .i64 me, .int .i64 (-1), .int .i64 1] 0 (by simp) rfl)
        have HX9 := hide X9
        simp only [World.setCells, Nat.reduceAdd] at HX9
        have bb := HX8.out.2.1
        have zp8 := bb.lt
        unfold bsrV at bb
        have bb_c0 := bb.cell 0 rfl
        have bb_f0 := bb.frozen 0
        have bb_c1 := bb.cell 1 rfl
        have bb_f1 := bb.frozen 1
        have bb_c2 := bb.cell 2 rfl
        have bb_f2 := bb.frozen 2
        have bb_c3 := bb.cell 3 rfl
        have bb_f3 := bb.frozen 3
        have bb_c4 := bb.cell 4 rfl
        have bb_f4 := bb.frozen 4
        have bb_c5 := bb.cell 5 rfl
        have bb_f5 := bb.frozen 5
        have bb_c6 := bb.cell 6 rfl
        have bb_f6 := bb.frozen 6
        have bb_c7 := bb.cell 7 rfl
        have bb_f7 := bb.frozen 7
        have bb_c8 := bb.cell 8 rfl
        have bb_f8 := bb.frozen 8
        have bb_c9 := bb.cell 9 rfl
        have bb_f9 := bb.frozen 9
        have bb_c10 := bb.cell 10 rfl
        have bb_f10 := bb.frozen 10
        have bb_c11 := bb.cell 11 rfl
        have bb_f11 := bb.frozen 11
        clear X9
        go_upto_region 10 with fail
        refine wp_gen (P := fun W3 => BX w p pd (KMO w M A3 m3 c3) { S with st := 1, ix := M.ix, sub := M.sub, mo := me, sz := (-1), nx := 1 } A n1 c1 W3) HX9.out (fun W3 hW3 => ?_)
        clear bb_c0 bb_f0 bb_c1 bb_f1 bb_c2 bb_f2 bb_c3 bb_f3 bb_c4 bb_f4 bb_c5 bb_f5 bb_c6 bb_f6 bb_c7 bb_f7 bb_c8 bb_f8 bb_c9 bb_f9 bb_c10 bb_f10 bb_c11 bb_f11
        clear HX9 bb
        have HX3 := hide hW3
        have k1 := hW3.msg
        have bb := hW3.2.1
        have zp3 := bb.lt
        have zk3 := k1.lt
        have g1 : (W3.setCell ⟨p, 10, none⟩ (.slice none 0 0)).cell? ⟨w.heap.size, 5, none⟩ = some (.bool M.cr) := (k1.far (p := ⟨p, 10, none⟩) hne0 _).cell 5 rfl
        have X10 := (hW3.sets (S' := ⟨me, (-1), 1, S.ha, S.ta, S.ro, 1, M.ix, M.sub, [], M.cr⟩) (A' := none) (n' := 0) (c' := 0) [.slice none 0 0, .bool M.cr] 10 (by simp) rfl)
        have HX10 := hide X10.drew
        simp only [World.setCells, Nat.reduceAdd] at HX10
        unfold msV at k1
        unfold bsrV at bb
        have k1_c0 := k1.cell 0 rfl
        have k1_f0 := k1.frozen 0
        have k1_c1 := k1.cell 1 rfl
        have k1_f1 := k1.frozen 1
        have k1_c2 := k1.cell 2 rfl
        have k1_f2 := k1.frozen 2
        have k1_c3 := k1.cell 3 rfl
        have k1_f3 := k1.frozen 3
        have k1_c4 := k1.cell 4 rfl
        have k1_f4 := k1.frozen 4
        have k1_c5 := k1.cell 5 rfl
        have k1_f5 := k1.frozen 5
        have k1_c6 := k1.cell 6 rfl
        have k1_f6 := k1.frozen 6
        have k1_c7 := k1.cell 7 rfl
        have k1_f7 := k1.frozen 7
        have k1_c8 := k1.cell 8 rfl
        have k1_f8 := k1.frozen 8
        have k1_c9 := k1.cell 9 rfl
        have k1_f9 := k1.frozen 9
        have k1_c10 := k1.cell 10 rfl
        have k1_f10 := k1.frozen 10
        have k1_c11 := k1.cell 11 rfl
        have k1_f11 := k1.frozen 11
        have k1_c12 := k1.cell 12 rfl
        have k1_f12 := k1.frozen 12
        have k1_c13 := k1.cell 13 rfl
        have k1_f13 := k1.frozen 13
        have bb_c0 := bb.cell 0 rfl
        have bb_f0 := bb.frozen 0
        have bb_c1 := bb.cell 1 rfl
        have bb_f1 := bb.frozen 1
        have bb_c2 := bb.cell 2 rfl
        have bb_f2 := bb.frozen 2
        have bb_c3 := bb.cell 3 rfl
        have bb_f3 := bb.frozen 3
        have bb_c4 := bb.cell 4 rfl
        have bb_f4 := bb.frozen 4
        have bb_c5 := bb.cell 5 rfl
        have bb_f5 := bb.frozen 5
        have bb_c6 := bb.cell 6 rfl
        have bb_f6 := bb.frozen 6
        have bb_c7 := bb.cell 7 rfl
        have bb_f7 := bb.frozen 7
        have bb_c8 := bb.cell 8 rfl
        have bb_f8 := bb.frozen 8
        have bb_c9 := bb.cell 9 rfl
        have bb_f9 := bb.frozen 9
        have bb_c10 := bb.cell 10 rfl
        have bb_f10 := bb.frozen 10
        have bb_c11 := bb.cell 11 rfl
        have bb_f11 := bb.frozen 11
        clear hW3 X10
        go_wp2_with fail
        refine wp_region_T (fun w' => w'.cell? ⟨w.heap.size, 5, none⟩ = some (.bool M.cr)) [0, 1, 2, 3, 4, 5, 7, 8] (by kernel_rfl) ?hS56 (fun hHeld => ?rest56)
        case hS56 => ((try dsimp only); exact k1_c5)
        case' rest56 => skip
        refine wpAnyT_take (by kernel_rfl) (by kernel_rfl) (i := 0) (oi := _) (v := ?v57) rfl (by kernel_rfl) (by kernel_rfl) (by kernel_rfl) (fun _ _ _ h => h) (Or.inl ⟨by rfl, ?hy57⟩) (by assumption) ?rest57
        case hy57 => ((intro w hSw; (try dsimp only at hSw); go_simp) <;> with_reducible rfl)
        case' rest57 => try simp only [List.getElem_toArray, List.getElem_cons_zero, List.getElem_cons_succ, Act.put, List.setIfInBounds_toArray, List.set_cons_zero, List.set_cons_succ]
        refine wpAnyT_take (by kernel_rfl) (by kernel_rfl) (i := 1) (oi := _) (v := ?v58) rfl (by kernel_rfl) (by kernel_rfl) (by kernel_rfl) (fun _ _ _ h => h) (Or.inl ⟨by rfl, ?hy58⟩) (by assumption) ?rest58
        case hy58 => ((intro w hSw; (try dsimp only at hSw); go_simp) <;> with_reducible rfl)
        case' rest58 => try simp only [List.getElem_toArray, List.getElem_cons_zero, List.getElem_cons_succ, Act.put, List.setIfInBounds_toArray, List.set_cons_zero, List.set_cons_succ]
        refine wpAnyT_take (by kernel_rfl) (by kernel_rfl) (i := 2) (oi := _) (v := ?v59) rfl (by kernel_rfl) (by kernel_rfl) (by kernel_rfl) (fun _ _ _ h => h) (Or.inl ⟨by rfl, ?hy59⟩) (by assumption) ?rest59
        case hy59 => ((intro w hSw; (try dsimp only at hSw); go_simp) <;> with_reducible rfl)
        case' rest59 => try simp only [List.getElem_toArray, List.getElem_cons_zero, List.getElem_cons_succ, Act.put, List.setIfInBounds_toArray, List.set_cons_zero, List.set_cons_succ]
        refine wpAnyT_take (by kernel_rfl) (by kernel_rfl) (i := 3) (oi := _) (v := ?v60) rfl (by kernel_rfl) (by kernel_rfl) (by kernel_rfl) (fun _ _ _ h => h) (Or.inl ⟨by rfl, ?hy60⟩) (by assumption) ?rest60
        case hy60 => ((intro w hSw; (try dsimp only at hSw); go_simp) <;> with_reducible rfl)
        case' rest60 => try simp only [List.getElem_toArray, List.getElem_cons_zero, List.getElem_cons_succ, Act.put, List.setIfInBounds_toArray, List.set_cons_zero, List.set_cons_succ]
        refine wpAnyT_take (by kernel_rfl) (by kernel_rfl) (i := 4) (oi := _) (v := ?v61) rfl (by kernel_rfl) (by kernel_rfl) (by kernel_rfl) (fun _ _ _ h => h) (Or.inl ⟨by rfl, ?hy61⟩) (by assumption) ?rest61
        case hy61 => ((intro w hSw; (try dsimp only at hSw); go_simp) <;> with_reducible rfl)
        case' rest61 => try simp only [List.getElem_toArray, List.getElem_cons_zero, List.getElem_cons_succ, Act.put, List.setIfInBounds_toArray, List.set_cons_zero, List.set_cons_succ]
        refine wpAnyT_take (by kernel_rfl) (by kernel_rfl) (i := 5) (oi := _) (v := ?v62) rfl (by kernel_rfl) (by kernel_rfl) (by kernel_rfl) (fun _ _ _ h => h) (Or.inl ⟨by rfl, ?hy62⟩) (by assumption) ?rest62
        case hy62 => ((intro w hSw; (try dsimp only at hSw); go_simp) <;> with_reducible rfl)
        case' rest62 => try simp only [List.getElem_toArray, List.getElem_cons_zero, List.getElem_cons_succ, Act.put, List.setIfInBounds_toArray, List.set_cons_zero, List.set_cons_succ]
        refine wpAnyT_one (i := 6) (o := _) rfl (by kernel_rfl) (fun K hK => ?_)
        go_simp
        refine hK.out _ _ ?hS64 (fun hHeld => ?rest64)
        case hS64 => ((try dsimp only); (exact g1))
        case' rest64 => (clear hK K; try simp only [List.getElem_toArray, List.getElem_cons_zero, List.getElem_cons_succ, Act.put, List.setIfInBounds_toArray, List.set_cons_zero, List.set_cons_succ])
        refine wpAnyT_take (by kernel_rfl) (by kernel_rfl) (i := 7) (oi := _) (v := ?v65) rfl (by kernel_rfl) (by kernel_rfl) (by kernel_rfl) (fun _ _ _ h => h) (Or.inl ⟨by rfl, ?hy65⟩) (by assumption) ?rest65
        case hy65 => ((intro w hSw; (try dsimp only at hSw); go_simp) <;> with_reducible rfl)
        case' rest65 => try simp only [List.getElem_toArray, List.getElem_cons_zero, List.getElem_cons_succ, Act.put, List.setIfInBounds_toArray, List.set_cons_zero, List.set_cons_succ]
        refine wpAnyT_take (by kernel_rfl) (by kernel_rfl) (i := 8) (oi := _) (v := ?v66) rfl (by kernel_rfl) (by kernel_rfl) (by kernel_rfl) (fun _ _ _ h => h) (Or.inl ⟨by rfl, ?hy66⟩) (by assumption) ?rest66
        case hy66 => ((intro w hSw; (try dsimp only at hSw); go_simp) <;> with_reducible rfl)
        case' rest66 => try simp only [List.getElem_toArray, List.getElem_cons_zero, List.getElem_cons_succ, Act.put, List.setIfInBounds_toArray, List.set_cons_zero, List.set_cons_succ]
        refine wpAnyT_late (i := 9) (o := _) rfl (by kernel_rfl) (by kernel_rfl) (fun K hK => ?_)
        go_simp
        refine hK.out _ _ ?rest68
        case' rest68 => (clear hK K; try simp only [List.getElem_toArray, List.getElem_cons_zero, List.getElem_cons_succ, Act.put, List.setIfInBounds_toArray, List.set_cons_zero, List.set_cons_succ])
        refine wpAnyT_done (by kernel_rfl) ?_ _
        repeat (clear hHeld)
        clear g1
        go_upto_region 11 with fail
        refine wp_gen (P := fun W4 => BX w p pd (KMO w M A3 m3 c3) ⟨me, (-1), 1, S.ha, S.ta, S.ro, 1, M.ix, M.sub, [], M.cr⟩ none 0 0 W4) HX10.out (fun W4 hW4 => ?_)
        clear k1_c0 k1_f0 k1_c1 k1_f1 k1_c2 k1_f2 k1_c3 k1_f3 k1_c4 k1_f4 k1_c5 k1_f5 k1_c6 k1_f6 k1_c7 k1_f7 k1_c8 k1_f8 k1_c9 k1_f9 k1_c10 k1_f10 k1_c11 k1_f11 k1_c12 k1_f12 k1_c13 k1_f13
        clear bb_c0 bb_f0 bb_c1 bb_f1 bb_c2 bb_f2 bb_c3 bb_f3 bb_c4 bb_f4 bb_c5 bb_f5 bb_c6 bb_f6 bb_c7 bb_f7 bb_c8 bb_f8 bb_c9 bb_f9 bb_c10 bb_f10 bb_c11 bb_f11
        clear HX10 k1 bb
        have HND : Hid (bdownS L S M = ⟨me, (-1), 1, S.ha, S.ta, S.ro, 1, M.ix, M.sub, [], M.cr⟩) := hide (by
          unfold bdownS
          rw [if_neg (by rw [HDC.out]; simp), ← HEK.out, ← HME.out, HSZ.out]
          rfl)
        have HR : Hid (P = BOutR w G p pd (bdownS L S M) (outM (bokM M.ix M.sub))) := hide (by
          rw [HP.out]
          congr 1
          unfold bdownO
          rw [if_neg (by rw [HDC.out]; simp)])
        have HX4 := hide (hW4.step (below_alloc (Below.refl _ _) (.cells (msV (bokM M.ix M.sub) none 0 0) 39)))
        have HG4 := hide (Blk.new W4 39 (msV (bokM M.ix M.sub) none 0 0))
        have k1 := hW4.msg
        have zk4 := k1.lt
        have zz4 := hW4.2.2.2
        unfold msV at k1
        unfold msV bokM at HX4 HG4
        have k1_c0 := k1.cell 0 rfl
        have k1_f0 := k1.frozen 0
        have k1_c1 := k1.cell 1 rfl
        have k1_f1 := k1.frozen 1
        have k1_c2 := k1.cell 2 rfl
        have k1_f2 := k1.frozen 2
        have k1_c3 := k1.cell 3 rfl
        have k1_f3 := k1.frozen 3
        have k1_c4 := k1.cell 4 rfl
        have k1_f4 := k1.frozen 4
        have k1_c5 := k1.cell 5 rfl
        have k1_f5 := k1.frozen 5
        have k1_c6 := k1.cell 6 rfl
        have k1_f6 := k1.frozen 6
        have k1_c7 := k1.cell 7 rfl
        have k1_f7 := k1.frozen 7
        have k1_c8 := k1.cell 8 rfl
        have k1_f8 := k1.frozen 8
        have k1_c9 := k1.cell 9 rfl
        have k1_f9 := k1.frozen 9
        have k1_c10 := k1.cell 10 rfl
        have k1_f10 := k1.frozen 10
        have k1_c11 := k1.cell 11 rfl
        have k1_f11 := k1.frozen 11
        have k1_c12 := k1.cell 12 rfl
        have k1_f12 := k1.frozen 12
        have k1_c13 := k1.cell 13 rfl
        have k1_f13 := k1.frozen 13
        clear hW4
        go_wp2_with fail
        refine (blk_send (some ⟨W4.heap.size, 0, none⟩) 1 1 _).mono ?_
        rintro e w6 ⟨rfl, hb6⟩
        have HX6 := hide (HX4.out.step hb6)
        have HG6 := hide (HG4.out.below hb6 HG4.out.lt)
        have HS6 : Hid (BV_ w6 (fun q => ((G q ∨ w.heap.size ≤ q) ∧ ¬ False) ∧ q ≠ w.heap.size + 1) p pd (bdownS L S M)) := hide ⟨none, 0, 0, by rw [HND.out]; exact HX6.out.2.1, fun _ => ⟨by rw [HND.out]; rfl, Nat.le_refl _, by rw [HND.out]; intro j u hu; simp at hu, fun _ => rfl, fun ad h => by cases h⟩⟩
        have k2 := HX6.out.out
        unfold outV outZ at k2
        unfold outV outZ
        dsimp only
        clear k1_c0 k1_f0 k1_c1 k1_f1 k1_c2 k1_f2 k1_c3 k1_f3 k1_c4 k1_f4 k1_c5 k1_f5 k1_c6 k1_f6 k1_c7 k1_f7 k1_c8 k1_f8 k1_c9 k1_f9 k1_c10 k1_f10 k1_c11 k1_f11 k1_c12 k1_f12 k1_c13 k1_f13
        have k2_c0 := k2.cell 0 rfl
        have k2_f0 := k2.frozen 0
        have k2_c1 := k2.cell 1 rfl
        have k2_f1 := k2.frozen 1
        have k2_c2 := k2.cell 2 rfl
        have k2_f2 := k2.frozen 2
        have k2_c3 := k2.cell 3 rfl
        have k2_f3 := k2.frozen 3
        have k2_c4 := k2.cell 4 rfl
        have k2_f4 := k2.frozen 4
        clear hb6 k1
        go_wp2_with fail
        obtain ⟨F1, F2⟩ := bfin_send (fun _ => False) HX6.out.out (by omega) (M := bokM M.ix M.sub) HG6.out (OwnB.nil _ _) (FIn.nil _) HS6.out HX6.out.1 hz
        rw [← HR.out] at F2
        clear HR
        unfold putO outZ at F1 F2
        dsimp only at F1 F2
        refine ret_out (O := ⟨[], false, 0, 0, []⟩) rfl rfl rfl F1 ?_
        exact F2
      · have HF := hide (fun W => seg_fits E M.size A4 n4 c4 W)
        obtain ⟨kf, hkf⟩ := fitsC_nn E M.size
        rw [hkf] at HF
        have HDC : Hid (bdcode L M = kf) := hide (by unfold bdcode; rw [if_pos ⟨HSM.out, hsz'⟩, ← HEK.out, hkf])
        unfold entV at HF
        clear hkf
        have HSZ := hide hsz'
        go_wp2_with fail
        refine (HF.out _).mono ?_
        rintro e w4 ⟨rfl, hb4⟩
        clear k1_c0 k1_f0 k1_c1 k1_f1 k1_c2 k1_f2 k1_c3 k1_f3 k1_c4 k1_f4 k1_c5 k1_f5 k1_c6 k1_f6 k1_c7 k1_f7 k1_c8 k1_f8 k1_c9 k1_f9 k1_c10 k1_f10 k1_c11 k1_f11 k1_c12 k1_f12 k1_c13 k1_f13
        clear hEb_c0 hEb_f0 hEb_c1 hEb_f1 hEb_c2 hEb_f2 hEb_c3 hEb_f3 hEb_c4 hEb_f4 hEb_c5 hEb_f5 hEb_c6 hEb_f6 hEb_c7 hEb_f7 hEb_c8 hEb_f8 hEb_c9 hEb_f9 hEb_c10 hEb_f10
        clear bb_c0 bb_f0 bb_c1 bb_f1 bb_c2 bb_f2 bb_c3 bb_f3 bb_c4 bb_f4 bb_c5 bb_f5 bb_c6 bb_f6 bb_c7 bb_f7 bb_c8 bb_f8 bb_c9 bb_f9 bb_c10 bb_f10 bb_c11 bb_f11
        clear k1 hEb bb
        replace HXW := hide (HXW.out.step hb4)
        have hbwy := below_step hb4 hbwy
        have hEb := HEB.out.below hb4 HEB.out.lt
        replace HEB := hide hEb
        have k1 := HXW.out.msg
        have bb := HXW.out.2.1
        have zk1 := k1.lt
        have zp := bb.lt
        have zE := hEb.lt
        unfold msV at k1
        unfold bsrV at bb
        unfold entV at hEb
        have k1_c0 := k1.cell 0 rfl
        have k1_f0 := k1.frozen 0
        have k1_c1 := k1.cell 1 rfl
        have k1_f1 := k1.frozen 1
        have k1_c2 := k1.cell 2 rfl
        have k1_f2 := k1.frozen 2
        have k1_c3 := k1.cell 3 rfl
        have k1_f3 := k1.frozen 3
        have k1_c4 := k1.cell 4 rfl
        have k1_f4 := k1.frozen 4
        have k1_c5 := k1.cell 5 rfl
        have k1_f5 := k1.frozen 5
        have k1_c6 := k1.cell 6 rfl
        have k1_f6 := k1.frozen 6
        have k1_c7 := k1.cell 7 rfl
        have k1_f7 := k1.frozen 7
        have k1_c8 := k1.cell 8 rfl
        have k1_f8 := k1.frozen 8
        have k1_c9 := k1.cell 9 rfl
        have k1_f9 := k1.frozen 9
        have k1_c10 := k1.cell 10 rfl
        have k1_f10 := k1.frozen 10
        have k1_c11 := k1.cell 11 rfl
        have k1_f11 := k1.frozen 11
        have k1_c12 := k1.cell 12 rfl
        have k1_f12 := k1.frozen 12
        have k1_c13 := k1.cell 13 rfl
        have k1_f13 := k1.frozen 13
        have hEb_c0 := hEb.cell 0 rfl
        have hEb_f0 := hEb.frozen 0
        have hEb_c1 := hEb.cell 1 rfl
        have hEb_f1 := hEb.frozen 1
        have hEb_c2 := hEb.cell 2 rfl
        have hEb_f2 := hEb.frozen 2
        have hEb_c3 := hEb.cell 3 rfl
        have hEb_f3 := hEb.frozen 3
        have hEb_c4 := hEb.cell 4 rfl
        have hEb_f4 := hEb.frozen 4
        have hEb_c5 := hEb.cell 5 rfl
        have hEb_f5 := hEb.frozen 5
        have hEb_c6 := hEb.cell 6 rfl
        have hEb_f6 := hEb.frozen 6
        have hEb_c7 := hEb.cell 7 rfl
        have hEb_f7 := hEb.frozen 7
        have hEb_c8 := hEb.cell 8 rfl
        have hEb_f8 := hEb.frozen 8
        have hEb_c9 := hEb.cell 9 rfl
        have hEb_f9 := hEb.frozen 9
        have hEb_c10 := hEb.cell 10 rfl
        have hEb_f10 := hEb.frozen 10
        have bb_c0 := bb.cell 0 rfl
        have bb_f0 := bb.frozen 0
        have bb_c1 := bb.cell 1 rfl
        have bb_f1 := bb.frozen 1
        have bb_c2 := bb.cell 2 rfl
        have bb_f2 := bb.frozen 2
        have bb_c3 := bb.cell 3 rfl
        have bb_f3 := bb.frozen 3
        have bb_c4 := bb.cell 4 rfl
        have bb_f4 := bb.frozen 4
        have bb_c5 := bb.cell 5 rfl
        have bb_f5 := bb.frozen 5
        have bb_c6 := bb.cell 6 rfl
        have bb_f6 := bb.frozen 6
        have bb_c7 := bb.cell 7 rfl
        have bb_f7 := bb.frozen 7
        have bb_c8 := bb.cell 8 rfl
        have bb_f8 := bb.frozen 8
        have bb_c9 := bb.cell 9 rfl
        have bb_f9 := bb.frozen 9
        have bb_c10 := bb.cell 10 rfl
        have bb_f10 := bb.frozen 10
        have bb_c11 := bb.cell 11 rfl
        have bb_f11 := bb.frozen 11
        by_cases hkf : kf = 0
        · subst hkf
          have c3 : (w4.setCell ⟨p, 7, none⟩ (.int .i64 1)).cell? ⟨w.heap.size, 1, none⟩ = some (.int .i64 M.ix) := (k1.far (p := ⟨p, 7, none⟩) hne0 _).cell 1 rfl
          have c4' : (w4.setCell ⟨p, 7, none⟩ (.int .i64 1)).cell? ⟨w.heap.size, 2, none⟩ = some (.int .i64 M.sub) := (k1.far (p := ⟨p, 7, none⟩) hne0 _).cell 2 rfl
          have c5 : ((w4.setCell ⟨p, 7, none⟩ (.int .i64 1)).setCell ⟨p, 8, none⟩ (.int .i64 M.ix)).cell? ⟨w.heap.size, 1, none⟩ = some (.int .i64 M.ix) := ((k1.far (p := ⟨p, 7, none⟩) hne0 _).far (p := ⟨p, 8, none⟩) hne0 _).cell 1 rfl
          have c6 : ((w4.setCell ⟨p, 7, none⟩ (.int .i64 1)).setCell ⟨p, 8, none⟩ (.int .i64 M.ix)).cell? ⟨w.heap.size, 2, none⟩ = some (.int .i64 M.sub) := ((k1.far (p := ⟨p, 7, none⟩) hne0 _).far (p := ⟨p, 8, none⟩) hne0 _).cell 2 rfl
          have X7 := (HXW.out.sets (S' := { S with st := 1, ix := M.ix, sub := M.sub }) [.int .i64 1, .int .i64 M.ix, .int .i64 M.sub] 7 (by simp) rfl)
          have HX7 := hide X7.drew
          have hE7 : Blk (w4.setCells p 7 [.int .i64 1, .int .i64 M.ix, .int .i64 M.sub]) ge 24 (entV E A4 n4 c4) := blk_only hEb (only_sets (F := fun q => q = p) rfl _ _ (Only.refl _ _)) hgp
          have HE7 := hide hE7
          simp only [World.setCells, Nat.reduceAdd] at HX7 HE7
          clear X7 hE7
          go_wp2_with fail
          refine wp_region_T (fun w' => w'.cell? ⟨w.heap.size, 1, none⟩ = some (.int .i64 M.ix) ∧ w'.cell? ⟨w.heap.size, 2, none⟩ = some (.int .i64 M.sub)) [0, 1, 2, 3, 4, 5, 6, 7, 8, 10, 11, 13, 14] (by kernel_rfl) ?hS70 (fun hHeld => ?rest70)
          case hS70 => ((try dsimp only); exact ⟨k1_c1, k1_c2⟩)
          case' rest70 => skip
          refine wpAnyT_take (by kernel_rfl) (by kernel_rfl) (i := 0) (oi := _) (v := ?v71) rfl (by kernel_rfl) (by kernel_rfl) (by kernel_rfl) (fun _ _ _ h => h) (Or.inl ⟨by rfl, ?hy71⟩) (by assumption) ?rest71
          case hy71 => ((intro w hSw; (try dsimp only at hSw); go_simp) <;> with_reducible rfl)
          case' rest71 => try simp only [List.getElem_toArray, List.getElem_cons_zero, List.getElem_cons_succ, Act.put, List.setIfInBounds_toArray, List.set_cons_zero, List.set_cons_succ]
          refine wpAnyT_take (by kernel_rfl) (by kernel_rfl) (i := 1) (oi := _) (v := ?v72) rfl (by kernel_rfl) (by kernel_rfl) (by kernel_rfl) (fun _ _ _ h => h) (Or.inl ⟨by rfl, ?hy72⟩) (by assumption) ?rest72
          case hy72 => ((intro w hSw; (try dsimp only at hSw); go_simp) <;> with_reducible rfl)
          case' rest72 => try simp only [List.getElem_toArray, List.getElem_cons_zero, List.getElem_cons_succ, Act.put, List.setIfInBounds_toArray, List.set_cons_zero, List.set_cons_succ]
          refine wpAnyT_take (by kernel_rfl) (by kernel_rfl) (i := 2) (oi := _) (v := ?v73) rfl (by kernel_rfl) (by kernel_rfl) (by kernel_rfl) (fun _ _ _ h => h) (Or.inl ⟨by rfl, ?hy73⟩) (by assumption) ?rest73
          case hy73 => ((intro w hSw; (try dsimp only at hSw); go_simp) <;> with_reducible rfl)
          case' rest73 => try simp only [List.getElem_toArray, List.getElem_cons_zero, List.getElem_cons_succ, Act.put, List.setIfInBounds_toArray, List.set_cons_zero, List.set_cons_succ]
          refine wpAnyT_take (by kernel_rfl) (by kernel_rfl) (i := 3) (oi := _) (v := ?v74) rfl (by kernel_rfl) (by kernel_rfl) (by kernel_rfl) (fun _ _ _ h => h) (Or.inl ⟨by rfl, ?hy74⟩) (by assumption) ?rest74
          case hy74 => ((intro w hSw; (try dsimp only at hSw); go_simp) <;> with_reducible rfl)
          case' rest74 => try simp only [List.getElem_toArray, List.getElem_cons_zero, List.getElem_cons_succ, Act.put, List.setIfInBounds_toArray, List.set_cons_zero, List.set_cons_succ]
          refine wpAnyT_take (by kernel_rfl) (by kernel_rfl) (i := 4) (oi := _) (v := ?v75) rfl (by kernel_rfl) (by kernel_rfl) (by kernel_rfl) (fun _ _ _ h => h) (Or.inl ⟨by rfl, ?hy75⟩) (by assumption) ?rest75
          case hy75 => ((intro w hSw; (try dsimp only at hSw); go_simp) <;> with_reducible rfl)
          case' rest75 => try simp only [List.getElem_toArray, List.getElem_cons_zero, List.getElem_cons_succ, Act.put, List.setIfInBounds_toArray, List.set_cons_zero, List.set_cons_succ]
          refine wpAnyT_take (by kernel_rfl) (by kernel_rfl) (i := 5) (oi := _) (v := ?v76) rfl (by kernel_rfl) (by kernel_rfl) (by kernel_rfl) (fun _ _ _ h => h) (Or.inl ⟨by rfl, ?hy76⟩) (by assumption) ?rest76
          case hy76 => ((intro w hSw; (try dsimp only at hSw); go_simp) <;> with_reducible rfl)
          case' rest76 => try simp only [List.getElem_toArray, List.getElem_cons_zero, List.getElem_cons_succ, Act.put, List.setIfInBounds_toArray, List.set_cons_zero, List.set_cons_succ]
          refine wpAnyT_take (by kernel_rfl) (by kernel_rfl) (i := 6) (oi := _) (v := ?v77) rfl (by kernel_rfl) (by kernel_rfl) (by kernel_rfl) (fun _ _ _ h => h) (Or.inl ⟨by rfl, ?hy77⟩) (by assumption) ?rest77
          case hy77 => ((intro w hSw; (try dsimp only at hSw); go_simp) <;> with_reducible rfl)
          case' rest77 => try simp only [List.getElem_toArray, List.getElem_cons_zero, List.getElem_cons_succ, Act.put, List.setIfInBounds_toArray, List.set_cons_zero, List.set_cons_succ]
          refine wpAnyT_take (by kernel_rfl) (by kernel_rfl) (i := 7) (oi := _) (v := ?v78) rfl (by kernel_rfl) (by kernel_rfl) (by kernel_rfl) (fun _ _ _ h => h) (Or.inl ⟨by rfl, ?hy78⟩) (by assumption) ?rest78
          case hy78 => ((intro w hSw; (try dsimp only at hSw); go_simp) <;> with_reducible rfl)
          case' rest78 => try simp only [List.getElem_toArray, List.getElem_cons_zero, List.getElem_cons_succ, Act.put, List.setIfInBounds_toArray, List.set_cons_zero, List.set_cons_succ]
          refine wpAnyT_take (by kernel_rfl) (by kernel_rfl) (i := 8) (oi := _) (v := ?v79) rfl (by kernel_rfl) (by kernel_rfl) (by kernel_rfl) (fun _ _ _ h => h) (Or.inl ⟨by rfl, ?hy79⟩) (by assumption) ?rest79
          case hy79 => ((intro w hSw; (try dsimp only at hSw); go_simp) <;> with_reducible rfl)
          case' rest79 => try simp only [List.getElem_toArray, List.getElem_cons_zero, List.getElem_cons_succ, Act.put, List.setIfInBounds_toArray, List.set_cons_zero, List.set_cons_succ]
          refine wpAnyT_one (i := 9) (o := _) rfl (by kernel_rfl) (fun K hK => ?_)
          go_simp
          refine hK.out _ _ ?hS81 (fun hHeld => ?rest81)
          case hS81 => ((try dsimp only); (exact ⟨c3, c4'⟩))
          case' rest81 => (clear hK K; try simp only [List.getElem_toArray, List.getElem_cons_zero, List.getElem_cons_succ, Act.put, List.setIfInBounds_toArray, List.set_cons_zero, List.set_cons_succ])
          refine wpAnyT_take (by kernel_rfl) (by kernel_rfl) (i := 10) (oi := _) (v := ?v82) rfl (by kernel_rfl) (by kernel_rfl) (by kernel_rfl) (fun _ _ _ h => h) (Or.inl ⟨by rfl, ?hy82⟩) (by assumption) ?rest82
          case hy82 => ((intro w hSw; (try dsimp only at hSw); go_simp) <;> with_reducible rfl)
          case' rest82 => try simp only [List.getElem_toArray, List.getElem_cons_zero, List.getElem_cons_succ, Act.put, List.setIfInBounds_toArray, List.set_cons_zero, List.set_cons_succ]
          refine wpAnyT_take (by kernel_rfl) (by kernel_rfl) (i := 11) (oi := _) (v := ?v83) rfl (by kernel_rfl) (by kernel_rfl) (by kernel_rfl) (fun _ _ _ h => h) (Or.inl ⟨by rfl, ?hy83⟩) (by assumption) ?rest83
          case hy83 => ((intro w hSw; (try dsimp only at hSw); go_simp) <;> with_reducible rfl)
          case' rest83 => try simp only [List.getElem_toArray, List.getElem_cons_zero, List.getElem_cons_succ, Act.put, List.setIfInBounds_toArray, List.set_cons_zero, List.set_cons_succ]
          refine wpAnyT_one (i := 12) (o := _) rfl (by kernel_rfl) (fun K hK => ?_)
          go_simp
          refine hK.out _ _ ?hS85 (fun hHeld => ?rest85)
          case hS85 => ((try dsimp only); (exact ⟨c5, c6⟩))
          case' rest85 => (clear hK K; try simp only [List.getElem_toArray, List.getElem_cons_zero, List.getElem_cons_succ, Act.put, List.setIfInBounds_toArray, List.set_cons_zero, List.set_cons_succ])
          refine wpAnyT_take (by kernel_rfl) (by kernel_rfl) (i := 13) (oi := _) (v := ?v86) rfl (by kernel_rfl) (by kernel_rfl) (by kernel_rfl) (fun _ _ _ h => h) (Or.inl ⟨by rfl, ?hy86⟩) (by assumption) ?rest86
          case hy86 => ((intro w hSw; (try dsimp only at hSw); go_simp) <;> with_reducible rfl)
          case' rest86 => try simp only [List.getElem_toArray, List.getElem_cons_zero, List.getElem_cons_succ, Act.put, List.setIfInBounds_toArray, List.set_cons_zero, List.set_cons_succ]
          refine wpAnyT_take (by kernel_rfl) (by kernel_rfl) (i := 14) (oi := _) (v := ?v87) rfl (by kernel_rfl) (by kernel_rfl) (by kernel_rfl) (fun _ _ _ h => h) (Or.inl ⟨by rfl, ?hy87⟩) (by assumption) ?rest87
          case hy87 => ((intro w hSw; (try dsimp only at hSw); go_simp) <;> with_reducible rfl)
          case' rest87 => try simp only [List.getElem_toArray, List.getElem_cons_zero, List.getElem_cons_succ, Act.put, List.setIfInBounds_toArray, List.set_cons_zero, List.set_cons_succ]
          refine wpAnyT_late (i := 15) (o := _) rfl (by kernel_rfl) (by kernel_rfl) (fun K hK => ?_)
          go_simp
          refine hK.out _ _ ?rest89
          case' rest89 => (clear hK K; try simp only [List.getElem_toArray, List.getElem_cons_zero, List.getElem_cons_succ, Act.put, List.setIfInBounds_toArray, List.set_cons_zero, List.set_cons_succ])
          refine wpAnyT_done (by kernel_rfl) ?_ _
          repeat (clear hHeld)
          clear c3 c4' c5 c6
          go_upto_region 9 with fail
          refine wp_gen (P := fun W2 => BX w p pd (KMO w M A3 m3 c3) { S with st := 1, ix := M.ix, sub := M.sub } A n1 c1 W2 ∧ Blk W2 ge 24 (entV E A4 n4 c4)) ⟨HX7.out, HE7.out⟩ (fun W2 hW2 => ?_)
          clear k1_c0 k1_f0 k1_c1 k1_f1 k1_c2 k1_f2 k1_c3 k1_f3 k1_c4 k1_f4 k1_c5 k1_f5 k1_c6 k1_f6 k1_c7 k1_f7 k1_c8 k1_f8 k1_c9 k1_f9 k1_c10 k1_f10 k1_c11 k1_f11 k1_c12 k1_f12 k1_c13 k1_f13
          clear hEb_c0 hEb_f0 hEb_c1 hEb_f1 hEb_c2 hEb_f2 hEb_c3 hEb_f3 hEb_c4 hEb_f4 hEb_c5 hEb_f5 hEb_c6 hEb_f6 hEb_c7 hEb_f7 hEb_c8 hEb_f8 hEb_c9 hEb_f9 hEb_c10 hEb_f10
          clear bb_c0 bb_f0 bb_c1 bb_f1 bb_c2 bb_f2 bb_c3 bb_f3 bb_c4 bb_f4 bb_c5 bb_f5 bb_c6 bb_f6 bb_c7 bb_f7 bb_c8 bb_f8 bb_c9 bb_f9 bb_c10 bb_f10 bb_c11 bb_f11
          clear k1 hEb bb HX7 HE7
          obtain ⟨hX2, hEb⟩ := hW2
          have HX2 := hide hX2
          have zE2 := hEb.lt
          unfold entV at hEb
          have hEb_c0 := hEb.cell 0 rfl
          have hEb_f0 := hEb.frozen 0
          have hEb_c1 := hEb.cell 1 rfl
          have hEb_f1 := hEb.frozen 1
          have hEb_c2 := hEb.cell 2 rfl
          have hEb_f2 := hEb.frozen 2
          have hEb_c3 := hEb.cell 3 rfl
          have hEb_f3 := hEb.frozen 3
          have hEb_c4 := hEb.cell 4 rfl
          have hEb_f4 := hEb.frozen 4
          have hEb_c5 := hEb.cell 5 rfl
          have hEb_f5 := hEb.frozen 5
          have hEb_c6 := hEb.cell 6 rfl
          have hEb_f6 := hEb.frozen 6
          have hEb_c7 := hEb.cell 7 rfl
          have hEb_f7 := hEb.frozen 7
          have hEb_c8 := hEb.cell 8 rfl
          have hEb_f8 := hEb.frozen 8
          have hEb_c9 := hEb.cell 9 rfl
          have hEb_f9 := hEb.frozen 9
          have hEb_c10 := hEb.cell 10 rfl
          have hEb_f10 := hEb.frozen 10
          clear hX2
          go_wp2_with fail
          refine (seg_most E A4 n4 c4 _).mono ?_
          rintro e w8 ⟨rfl, hb8⟩
          obtain ⟨me, hme⟩ : ∃ me, me = mostE E := ⟨_, rfl⟩
          rw [← hme]
          have HME := hide hme
          have HX8 := hide (HX2.out.step hb8)
          clear hEb_c0 hEb_f0 hEb_c1 hEb_f1 hEb_c2 hEb_f2 hEb_c3 hEb_f3 hEb_c4 hEb_f4 hEb_c5 hEb_f5 hEb_c6 hEb_f6 hEb_c7 hEb_f7 hEb_c8 hEb_f8 hEb_c9 hEb_f9 hEb_c10 hEb_f10
          clear hEb hme hb8
          have X9 := (HX8.out.sets (S' := { S with st := 1, ix := M.ix, sub := M.sub, mo := me, sz := (M.size : Nat), nx := 1 }) [.int .i64 me, .int .i64 (M.size : Nat), .int .i64 1] 0 (by simp) rfl)
          have HX9 := hide X9
          simp only [World.setCells, Nat.reduceAdd] at HX9
          have bb := HX8.out.2.1
          have zp8 := bb.lt
          unfold bsrV at bb
          have bb_c0 := bb.cell 0 rfl
          have bb_f0 := bb.frozen 0
          have bb_c1 := bb.cell 1 rfl
          have bb_f1 := bb.frozen 1
          have bb_c2 := bb.cell 2 rfl
          have bb_f2 := bb.frozen 2
          have bb_c3 := bb.cell 3 rfl
          have bb_f3 := bb.frozen 3
          have bb_c4 := bb.cell 4 rfl
          have bb_f4 := bb.frozen 4
          have bb_c5 := bb.cell 5 rfl
          have bb_f5 := bb.frozen 5
          have bb_c6 := bb.cell 6 rfl
          have bb_f6 := bb.frozen 6
          have bb_c7 := bb.cell 7 rfl
          have bb_f7 := bb.frozen 7
          have bb_c8 := bb.cell 8 rfl
          have bb_f8 := bb.frozen 8
          have bb_c9 := bb.cell 9 rfl
          have bb_f9 := bb.frozen 9
          have bb_c10 := bb.cell 10 rfl
          have bb_f10 := bb.frozen 10
          have bb_c11 := bb.cell 11 rfl
          have bb_f11 := bb.frozen 11
          clear X9
          go_upto_region 10 with fail
          refine wp_gen (P := fun W3 => BX w p pd (KMO w M A3 m3 c3) { S with st := 1, ix := M.ix, sub := M.sub, mo := me, sz := (M.size : Nat), nx := 1 } A n1 c1 W3) HX9.out (fun W3 hW3 => ?_)
          clear bb_c0 bb_f0 bb_c1 bb_f1 bb_c2 bb_f2 bb_c3 bb_f3 bb_c4 bb_f4 bb_c5 bb_f5 bb_c6 bb_f6 bb_c7 bb_f7 bb_c8 bb_f8 bb_c9 bb_f9 bb_c10 bb_f10 bb_c11 bb_f11
          clear HX9 bb
          have HX3 := hide hW3
          have k1 := hW3.msg
          have bb := hW3.2.1
          have zp3 := bb.lt
          have zk3 := k1.lt
          have g1 : (W3.setCell ⟨p, 10, none⟩ (.slice none 0 0)).cell? ⟨w.heap.size, 5, none⟩ = some (.bool M.cr) := (k1.far (p := ⟨p, 10, none⟩) hne0 _).cell 5 rfl
          have X10 := (hW3.sets (S' := ⟨me, (M.size : Nat), 1, S.ha, S.ta, S.ro, 1, M.ix, M.sub, [], M.cr⟩) (A' := none) (n' := 0) (c' := 0) [.slice none 0 0, .bool M.cr] 10 (by simp) rfl)
          have HX10 := hide X10.drew
          simp only [World.setCells, Nat.reduceAdd] at HX10
          unfold msV at k1
          unfold bsrV at bb
          have k1_c0 := k1.cell 0 rfl
          have k1_f0 := k1.frozen 0
          have k1_c1 := k1.cell 1 rfl
          have k1_f1 := k1.frozen 1
          have k1_c2 := k1.cell 2 rfl
          have k1_f2 := k1.frozen 2
          have k1_c3 := k1.cell 3 rfl
          have k1_f3 := k1.frozen 3
          have k1_c4 := k1.cell 4 rfl
          have k1_f4 := k1.frozen 4
          have k1_c5 := k1.cell 5 rfl
          have k1_f5 := k1.frozen 5
          have k1_c6 := k1.cell 6 rfl
          have k1_f6 := k1.frozen 6
          have k1_c7 := k1.cell 7 rfl
          have k1_f7 := k1.frozen 7
          have k1_c8 := k1.cell 8 rfl
          have k1_f8 := k1.frozen 8
          have k1_c9 := k1.cell 9 rfl
          have k1_f9 := k1.frozen 9
          have k1_c10 := k1.cell 10 rfl
          have k1_f10 := k1.frozen 10
          have k1_c11 := k1.cell 11 rfl
          have k1_f11 := k1.frozen 11
          have k1_c12 := k1.cell 12 rfl
          have k1_f12 := k1.frozen 12
          have k1_c13 := k1.cell 13 rfl
          have k1_f13 := k1.frozen 13
          have bb_c0 := bb.cell 0 rfl
          have bb_f0 := bb.frozen 0
          have bb_c1 := bb.cell 1 rfl
          have bb_f1 := bb.frozen 1
          have bb_c2 := bb.cell 2 rfl
          have bb_f2 := bb.frozen 2
          have bb_c3 := bb.cell 3 rfl
          have bb_f3 := bb.frozen 3
          have bb_c4 := bb.cell 4 rfl
          have bb_f4 := bb.frozen 4
          have bb_c5 := bb.cell 5 rfl
          have bb_f5 := bb.frozen 5
          have bb_c6 := bb.cell 6 rfl
          have bb_f6 := bb.frozen 6
          have bb_c7 := bb.cell 7 rfl
          have bb_f7 := bb.frozen 7
          have bb_c8 := bb.cell 8 rfl
          have bb_f8 := bb.frozen 8
          have bb_c9 := bb.cell 9 rfl
          have bb_f9 := bb.frozen 9
          have bb_c10 := bb.cell 10 rfl
          have bb_f10 := bb.frozen 10
          have bb_c11 := bb.cell 11 rfl
          have bb_f11 := bb.frozen 11
          clear hW3 X10
          go_wp2_with fail
          refine wp_region_T (fun w' => w'.cell? ⟨w.heap.size, 5, none⟩ = some (.bool M.cr)) [0, 1, 2, 3, 4, 5, 7, 8] (by kernel_rfl) ?hS91 (fun hHeld => ?rest91)
          case hS91 => ((try dsimp only); exact k1_c5)
          case' rest91 => skip
          refine wpAnyT_take (by kernel_rfl) (by kernel_rfl) (i := 0) (oi := _) (v := ?v92) rfl (by kernel_rfl) (by kernel_rfl) (by kernel_rfl) (fun _ _ _ h => h) (Or.inl ⟨by rfl, ?hy92⟩) (by assumption) ?rest92
          case hy92 => ((intro w hSw; (try dsimp only at hSw); go_simp) <;> with_reducible rfl)
          case' rest92 => try simp only [List.getElem_toArray, List.getElem_cons_zero, List.getElem_cons_succ, Act.put, List.setIfInBounds_toArray, List.set_cons_zero, List.set_cons_succ]
          refine wpAnyT_take (by kernel_rfl) (by kernel_rfl) (i := 1) (oi := _) (v := ?v93) rfl (by kernel_rfl) (by kernel_rfl) (by kernel_rfl) (fun _ _ _ h => h) (Or.inl ⟨by rfl, ?hy93⟩) (by assumption) ?rest93
          case hy93 => ((intro w hSw; (try dsimp only at hSw); go_simp) <;> with_reducible rfl)
          case' rest93 => try simp only [List.getElem_toArray, List.getElem_cons_zero, List.getElem_cons_succ, Act.put, List.setIfInBounds_toArray, List.set_cons_zero, List.set_cons_succ]
          refine wpAnyT_take (by kernel_rfl) (by kernel_rfl) (i := 2) (oi := _) (v := ?v94) rfl (by kernel_rfl) (by kernel_rfl) (by kernel_rfl) (fun _ _ _ h => h) (Or.inl ⟨by rfl, ?hy94⟩) (by assumption) ?rest94
          case hy94 => ((intro w hSw; (try dsimp only at hSw); go_simp) <;> with_reducible rfl)
          case' rest94 => try simp only [List.getElem_toArray, List.getElem_cons_zero, List.getElem_cons_succ, Act.put, List.setIfInBounds_toArray, List.set_cons_zero, List.set_cons_succ]
          refine wpAnyT_take (by kernel_rfl) (by kernel_rfl) (i := 3) (oi := _) (v := ?v95) rfl (by kernel_rfl) (by kernel_rfl) (by kernel_rfl) (fun _ _ _ h => h) (Or.inl ⟨by rfl, ?hy95⟩) (by assumption) ?rest95
          case hy95 => ((intro w hSw; (try dsimp only at hSw); go_simp) <;> with_reducible rfl)
          case' rest95 => try simp only [List.getElem_toArray, List.getElem_cons_zero, List.getElem_cons_succ, Act.put, List.setIfInBounds_toArray, List.set_cons_zero, List.set_cons_succ]
          refine wpAnyT_take (by kernel_rfl) (by kernel_rfl) (i := 4) (oi := _) (v := ?v96) rfl (by kernel_rfl) (by kernel_rfl) (by kernel_rfl) (fun _ _ _ h => h) (Or.inl ⟨by rfl, ?hy96⟩) (by assumption) ?rest96
          case hy96 => ((intro w hSw; (try dsimp only at hSw); go_simp) <;> with_reducible rfl)
          case' rest96 => try simp only [List.getElem_toArray, List.getElem_cons_zero, List.getElem_cons_succ, Act.put, List.setIfInBounds_toArray, List.set_cons_zero, List.set_cons_succ]
          refine wpAnyT_take (by kernel_rfl) (by kernel_rfl) (i := 5) (oi := _) (v := ?v97) rfl (by kernel_rfl) (by kernel_rfl) (by kernel_rfl) (fun _ _ _ h => h) (Or.inl ⟨by rfl, ?hy97⟩) (by assumption) ?rest97
          case hy97 => ((intro w hSw; (try dsimp only at hSw); go_simp) <;> with_reducible rfl)
          case' rest97 => try simp only [List.getElem_toArray, List.getElem_cons_zero, List.getElem_cons_succ, Act.put, List.setIfInBounds_toArray, List.set_cons_zero, List.set_cons_succ]
          refine wpAnyT_one (i := 6) (o := _) rfl (by kernel_rfl) (fun K hK => ?_)
          go_simp
          refine hK.out _ _ ?hS99 (fun hHeld => ?rest99)
          case hS99 => ((try dsimp only); (exact g1))
          case' rest99 => (clear hK K; try simp only [List.getElem_toArray, List.getElem_cons_zero, List.getElem_cons_succ, Act.put, List.setIfInBounds_toArray, List.set_cons_zero, List.set_cons_succ])
          refine wpAnyT_take (by kernel_rfl) (by kernel_rfl) (i := 7) (oi := _) (v := ?v100) rfl (by kernel_rfl) (by kernel_rfl) (by kernel_rfl) (fun _ _ _ h => h) (Or.inl ⟨by rfl, ?hy100⟩) (by assumption) ?rest100
          case hy100 => ((intro w hSw; (try dsimp only at hSw); go_simp) <;> with_reducible rfl)
          case' rest100 => try simp only [List.getElem_toArray, List.getElem_cons_zero, List.getElem_cons_succ, Act.put, List.setIfInBounds_toArray, List.set_cons_zero, List.set_cons_succ]
          refine wpAnyT_take (by kernel_rfl) (by kernel_rfl) (i := 8) (oi := _) (v := ?v101) rfl (by kernel_rfl) (by kernel_rfl) (by kernel_rfl) (fun _ _ _ h => h) (Or.inl ⟨by rfl, ?hy101⟩) (by assumption) ?rest101
          case hy101 => ((intro w hSw; (try dsimp only at hSw); go_simp) <;> with_reducible rfl)
          case' rest101 => try simp only [List.getElem_toArray, List.getElem_cons_zero, List.getElem_cons_succ, Act.put, List.setIfInBounds_toArray, List.set_cons_zero, List.set_cons_succ]
          refine wpAnyT_late (i := 9) (o := _) rfl (by kernel_rfl) (by kernel_rfl) (fun K hK => ?_)
          go_simp
          refine hK.out _ _ ?rest103
          case' rest103 => (clear hK K; try simp only [List.getElem_toArray, List.getElem_cons_zero, List.getElem_cons_succ, Act.put, List.setIfInBounds_toArray, List.set_cons_zero, List.set_cons_succ])
          refine wpAnyT_done (by kernel_rfl) ?_ _
          repeat (clear hHeld)
          clear g1
          go_upto_region 11 with fail
          refine wp_gen (P := fun W4 => BX w p pd (KMO w M A3 m3 c3) ⟨me, (M.size : Nat), 1, S.ha, S.ta, S.ro, 1, M.ix, M.sub, [], M.cr⟩ none 0 0 W4) HX10.out (fun W4 hW4 => ?_)
          clear k1_c0 k1_f0 k1_c1 k1_f1 k1_c2 k1_f2 k1_c3 k1_f3 k1_c4 k1_f4 k1_c5 k1_f5 k1_c6 k1_f6 k1_c7 k1_f7 k1_c8 k1_f8 k1_c9 k1_f9 k1_c10 k1_f10 k1_c11 k1_f11 k1_c12 k1_f12 k1_c13 k1_f13
          clear bb_c0 bb_f0 bb_c1 bb_f1 bb_c2 bb_f2 bb_c3 bb_f3 bb_c4 bb_f4 bb_c5 bb_f5 bb_c6 bb_f6 bb_c7 bb_f7 bb_c8 bb_f8 bb_c9 bb_f9 bb_c10 bb_f10 bb_c11 bb_f11
          clear HX10 k1 bb
          have HND : Hid (bdownS L S M = ⟨me, (M.size : Nat), 1, S.ha, S.ta, S.ro, 1, M.ix, M.sub, [], M.cr⟩) := hide (by
            unfold bdownS
            rw [if_neg (by rw [HDC.out]; simp), ← HEK.out, ← HME.out, HSZ.out]
            rfl)
          have HR : Hid (P = BOutR w G p pd (bdownS L S M) (outM (bokM M.ix M.sub))) := hide (by
            rw [HP.out]
            congr 1
            unfold bdownO
            rw [if_neg (by rw [HDC.out]; simp)])
          have HX4 := hide (hW4.step (below_alloc (Below.refl _ _) (.cells (msV (bokM M.ix M.sub) none 0 0) 39)))
          have HG4 := hide (Blk.new W4 39 (msV (bokM M.ix M.sub) none 0 0))
          have k1 := hW4.msg
          have zk4 := k1.lt
          have zz4 := hW4.2.2.2
          unfold msV at k1
          unfold msV bokM at HX4 HG4
          have k1_c0 := k1.cell 0 rfl
          have k1_f0 := k1.frozen 0
          have k1_c1 := k1.cell 1 rfl
          have k1_f1 := k1.frozen 1
          have k1_c2 := k1.cell 2 rfl
          have k1_f2 := k1.frozen 2
          have k1_c3 := k1.cell 3 rfl
          have k1_f3 := k1.frozen 3
          have k1_c4 := k1.cell 4 rfl
          have k1_f4 := k1.frozen 4
          have k1_c5 := k1.cell 5 rfl
          have k1_f5 := k1.frozen 5
          have k1_c6 := k1.cell 6 rfl
          have k1_f6 := k1.frozen 6
          have k1_c7 := k1.cell 7 rfl
          have k1_f7 := k1.frozen 7
          have k1_c8 := k1.cell 8 rfl
          have k1_f8 := k1.frozen 8
          have k1_c9 := k1.cell 9 rfl
          have k1_f9 := k1.frozen 9
          have k1_c10 := k1.cell 10 rfl
          have k1_f10 := k1.frozen 10
          have k1_c11 := k1.cell 11 rfl
          have k1_f11 := k1.frozen 11
          have k1_c12 := k1.cell 12 rfl
          have k1_f12 := k1.frozen 12
          have k1_c13 := k1.cell 13 rfl
          have k1_f13 := k1.frozen 13
          clear hW4
          go_wp2_with fail
          refine (blk_send (some ⟨W4.heap.size, 0, none⟩) 1 1 _).mono ?_
          rintro e w6 ⟨rfl, hb6⟩
          have HX6 := hide (HX4.out.step hb6)
          have HG6 := hide (HG4.out.below hb6 HG4.out.lt)
          have HS6 : Hid (BV_ w6 (fun q => ((G q ∨ w.heap.size ≤ q) ∧ ¬ False) ∧ q ≠ w.heap.size + 1) p pd (bdownS L S M)) := hide ⟨none, 0, 0, by rw [HND.out]; exact HX6.out.2.1, fun _ => ⟨by rw [HND.out]; rfl, Nat.le_refl _, by rw [HND.out]; intro j u hu; simp at hu, fun _ => rfl, fun ad h => by cases h⟩⟩
          have k2 := HX6.out.out
          unfold outV outZ at k2
          unfold outV outZ
          dsimp only
          clear k1_c0 k1_f0 k1_c1 k1_f1 k1_c2 k1_f2 k1_c3 k1_f3 k1_c4 k1_f4 k1_c5 k1_f5 k1_c6 k1_f6 k1_c7 k1_f7 k1_c8 k1_f8 k1_c9 k1_f9 k1_c10 k1_f10 k1_c11 k1_f11 k1_c12 k1_f12 k1_c13 k1_f13
          have k2_c0 := k2.cell 0 rfl
          have k2_f0 := k2.frozen 0
          have k2_c1 := k2.cell 1 rfl
          have k2_f1 := k2.frozen 1
          have k2_c2 := k2.cell 2 rfl
          have k2_f2 := k2.frozen 2
          have k2_c3 := k2.cell 3 rfl
          have k2_f3 := k2.frozen 3
          have k2_c4 := k2.cell 4 rfl
          have k2_f4 := k2.frozen 4
          clear hb6 k1
          go_wp2_with fail
          obtain ⟨F1, F2⟩ := bfin_send (fun _ => False) HX6.out.out (by omega) (M := bokM M.ix M.sub) HG6.out (OwnB.nil _ _) (FIn.nil _) HS6.out HX6.out.1 hz
          rw [← HR.out] at F2
          clear HR
          unfold putO outZ at F1 F2
          dsimp only at F1 F2
          refine ret_out (O := ⟨[], false, 0, 0, []⟩) rfl rfl rfl F1 ?_
          exact F2
        · skip
          have HR : Hid (P = BOutR w G p pd S (outM (abM M.ix M.sub kf))) := hide (by
            rw [HP.out]
            congr 1
            · unfold bdownS; rw [if_pos (by rw [HDC.out]; omega)]
            · unfold bdownO; rw [if_pos (by rw [HDC.out]; omega), HDC.out]; rfl)
          go_wp2_with fail
          refine (blk_refuse M.ix M.sub kf _).mono ?_
          rintro e w5 ⟨rfl, hb5⟩
          have HX5 := hide ((HXW.out.step hb5).step (below_alloc (Below.refl _ _) (.cells (msV (abM M.ix M.sub kf) none 0 0) 39)))
          have HG5 := hide (Blk.new w5 39 (msV (abM M.ix M.sub kf) none 0 0))
          have hbw5 := below_alloc (below_step hb5 hbwy) (.cells (msV (abM M.ix M.sub kf) none 0 0) 39)
          have HBW5 := hide hbw5
          have zz5 : w.heap.size + 2 ≤ w5.heap.size := Nat.le_trans HXW.out.2.2.2 hb5.size
          unfold msV abM at HX5 HG5 HBW5
          unfold msV abM
          dsimp only
          clear k1_c0 k1_f0 k1_c1 k1_f1 k1_c2 k1_f2 k1_c3 k1_f3 k1_c4 k1_f4 k1_c5 k1_f5 k1_c6 k1_f6 k1_c7 k1_f7 k1_c8 k1_f8 k1_c9 k1_f9 k1_c10 k1_f10 k1_c11 k1_f11 k1_c12 k1_f12 k1_c13 k1_f13
          clear hEb_c0 hEb_f0 hEb_c1 hEb_f1 hEb_c2 hEb_f2 hEb_c3 hEb_f3 hEb_c4 hEb_f4 hEb_c5 hEb_f5 hEb_c6 hEb_f6 hEb_c7 hEb_f7 hEb_c8 hEb_f8 hEb_c9 hEb_f9 hEb_c10 hEb_f10
          clear hbw5 hb5 k1 hEb
          go_wp2_with fail
          refine (blk_send (some ⟨w5.heap.size, 0, none⟩) 1 1 _).mono ?_
          rintro e w6 ⟨rfl, hb6⟩
          have HX6 := hide (HX5.out.step hb6)
          have HG6 := hide (HG5.out.below hb6 HG5.out.lt)
          have hbw6 := below_step hb6 HBW5.out
          have HS6 := hide (HS0.out.keep (w' := w6) (H := fun q => ((G q ∨ w.heap.size ≤ q) ∧ ¬ False) ∧ q ≠ w.heap.size + 1) (fun q _ hq => hbw6.block q hq) hbw6.size (fun q h1 h2 => ⟨⟨.inl h2, id⟩, by omega⟩))
          have k2 := HX6.out.out
          unfold outV outZ at k2
          unfold outV outZ
          dsimp only
          have k2_c0 := k2.cell 0 rfl
          have k2_f0 := k2.frozen 0
          have k2_c1 := k2.cell 1 rfl
          have k2_f1 := k2.frozen 1
          have k2_c2 := k2.cell 2 rfl
          have k2_f2 := k2.frozen 2
          have k2_c3 := k2.cell 3 rfl
          have k2_f3 := k2.frozen 3
          have k2_c4 := k2.cell 4 rfl
          have k2_f4 := k2.frozen 4
          clear hb6 hbw6
          go_wp2_with fail
          obtain ⟨F1, F2⟩ := bfin_send (fun _ => False) HX6.out.out (by omega) (M := abM M.ix M.sub kf) HG6.out (OwnB.nil _ _) (FIn.nil _) HS6.out HX6.out.1 hz
          rw [← HR.out] at F2
          clear HR
          unfold putO outZ at F1 F2
          dsimp only at F1 F2
          refine ret_out (O := ⟨[], false, 0, 0, []⟩) rfl rfl rfl F1 ?_
          exact F2
    · have HDC : Hid (bdcode L M = k0) := hide (by unfold bdcode; rw [if_neg (by rw [hk0]; omega), hk0])
      clear hE hk0
      have HR : Hid (P = BOutR w G p pd S (outM (abM M.ix M.sub k0))) := hide (by
        rw [HP.out]
        congr 1
        · unfold bdownS; rw [if_pos (by rw [HDC.out]; omega)]
        · unfold bdownO; rw [if_pos (by rw [HDC.out]; omega), HDC.out]; rfl)
      go_wp2_with fail
      refine (blk_refuse M.ix M.sub k0 _).mono ?_
      rintro e w5 ⟨rfl, hb5⟩
      have HX5 := hide ((HXW.out.step hb5).step (below_alloc (Below.refl _ _) (.cells (msV (abM M.ix M.sub k0) none 0 0) 39)))
      have HG5 := hide (Blk.new w5 39 (msV (abM M.ix M.sub k0) none 0 0))
      have hbw5 := below_alloc (below_step hb5 hbwy) (.cells (msV (abM M.ix M.sub k0) none 0 0) 39)
      have HBW5 := hide hbw5
      have zz5 : w.heap.size + 2 ≤ w5.heap.size := Nat.le_trans HXW.out.2.2.2 hb5.size
      unfold msV abM at HX5 HG5 HBW5
      unfold msV abM
      dsimp only
      clear k1_c0 k1_f0 k1_c1 k1_f1 k1_c2 k1_f2 k1_c3 k1_f3 k1_c4 k1_f4 k1_c5 k1_f5 k1_c6 k1_f6 k1_c7 k1_f7 k1_c8 k1_f8 k1_c9 k1_f9 k1_c10 k1_f10 k1_c11 k1_f11 k1_c12 k1_f12 k1_c13 k1_f13
      clear hEb_c0 hEb_f0 hEb_c1 hEb_f1 hEb_c2 hEb_f2 hEb_c3 hEb_f3 hEb_c4 hEb_f4 hEb_c5 hEb_f5 hEb_c6 hEb_f6 hEb_c7 hEb_f7 hEb_c8 hEb_f8 hEb_c9 hEb_f9 hEb_c10 hEb_f10
      clear hbw5 hb5 k1 hEb
      go_wp2_with fail
      refine (blk_send (some ⟨w5.heap.size, 0, none⟩) 1 1 _).mono ?_
      rintro e w6 ⟨rfl, hb6⟩
      have HX6 := hide (HX5.out.step hb6)
      have HG6 := hide (HG5.out.below hb6 HG5.out.lt)
      have hbw6 := below_step hb6 HBW5.out
      have HS6 := hide (HS0.out.keep (w' := w6) (H := fun q => ((G q ∨ w.heap.size ≤ q) ∧ ¬ False) ∧ q ≠ w.heap.size + 1) (fun q _ hq => hbw6.block q hq) hbw6.size (fun q h1 h2 => ⟨⟨.inl h2, id⟩, by omega⟩))
      have k2 := HX6.out.out
      unfold outV outZ at k2
      unfold outV outZ
      dsimp only
      have k2_c0 := k2.cell 0 rfl
      have k2_f0 := k2.frozen 0
      have k2_c1 := k2.cell 1 rfl
      have k2_f1 := k2.frozen 1
      have k2_c2 := k2.cell 2 rfl
      have k2_f2 := k2.frozen 2
      have k2_c3 := k2.cell 3 rfl
      have k2_f3 := k2.frozen 3
      have k2_c4 := k2.cell 4 rfl
      have k2_f4 := k2.frozen 4
      clear hb6 hbw6
      go_wp2_with fail
      obtain ⟨F1, F2⟩ := bfin_send (fun _ => False) HX6.out.out (by omega) (M := abM M.ix M.sub k0) HG6.out (OwnB.nil _ _) (FIn.nil _) HS6.out HX6.out.1 hz
      rw [← HR.out] at F2
      clear HR
      unfold putO outZ at F1 F2
      dsimp only at F1 F2
      refine ret_out (O := ⟨[], false, 0, 0, []⟩) rfl rfl rfl F1 ?_
      exact F2
end
end Go.Proofs.Ytimdmhhgomfijaa

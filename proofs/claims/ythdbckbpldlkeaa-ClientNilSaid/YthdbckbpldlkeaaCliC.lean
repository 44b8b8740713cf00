/- Package client: its state between calls; New, fail, more, sized, total. -/
import Derived.Test.YthdbckbpldlkeaaCliB
import Derived.Test.YthdbckbpldlkeaaCidA
import Derived.RegionTactic
import Derived.Deep.RegionHeld3
import Derived.Deep.DeepCutAuto
import Derived.Deep.CutBlock
namespace Go.Proofs.Ythdbckbpldlkeaa
set_option linter.unusedVariables false
set_option linter.unusedSimpArgs false
set_option linter.unnecessarySimpa false
open Go.RowKit Go.Maps
set_option maxRecDepth 100000
set_option maxHeartbeats 4000000
/-- what was expected is what the plain state says -/
def EOk (S : CliS) (R : CR) : Prop := R.E.cr = S.ec ∧ R.E.sz = S.es ∧ R.E.size = S.en ∧ S.en ≤ 4294967295
/-- a client at block p, its map at block m; its bytes, where they count, lie in blocks of G -/
def CV_ (w : World) (G : Nat → Prop) (p m : Nat) (S : CliS) : Prop :=
  ∃ R : CR, Blk w p 65 (cliL S m R).toArray ∧ WM w m S.wk ∧ EOk S R ∧ (S.wk ≠ 0 → OwnB w 0 R.A R.n R.c S.b ∧ FIn G R.A) ∧ R.n2 = S.data.length ∧ (S.data ≠ [] → OwnB w 0 R.A2 R.n2 R.c2 S.data ∧ FIn G R.A2)
/-- what comes of a call that hands frames back -/
def CliR (w : World) (G : Nat → Prop) (p m : Nat) (S' : CliS) (L : List Frm) (e : Ending) (w' : World) : Prop :=
  ∃ N As ns cs ds, e = .returned (.slice As ns cs) ∧ OwnFr w' (fun g => N ≤ g) As ns cs L ds ∧ w.heap.size ≤ N ∧ CV_ w' (fun g => (G g ∨ w.heap.size ≤ g) ∧ g < N) p m S' ∧ Only (fun q => q = p ∨ q = m ∨ G q) w w'
theorem CV_.cm {w : World} {G : Nat → Prop} {p m : Nat} {S : CliS} (h : CV_ w G p m S) : ∃ R : CR, CM w G p m S.wk (cliL S m R) [] [] w ∧ EOk S R ∧ R.n2 = S.data.length := by
  obtain ⟨R, hB, hm, hE, _, hn, _⟩ := h
  exact ⟨R, ⟨hB, hm, Only.refl _ _, by simp, by simp⟩, hE, hn⟩
theorem CV_.cm1 {w : World} {G : Nat → Prop} {p m : Nat} {S : CliS} (h : CV_ w G p m S) (h0 : S.wk ≠ 0) : ∃ R : CR, CM w G p m S.wk (cliL S m R) [] [⟨R.A, R.n, R.c, S.b⟩] w ∧ EOk S R ∧ R.n2 = S.data.length := by
  obtain ⟨R, hB, hm, hE, hb, hn, _⟩ := h
  refine ⟨R, ⟨hB, hm, Only.refl _ _, by simp, ?_⟩, hE, hn⟩
  intro r hr
  simp at hr
  subst hr
  exact ⟨(hb h0).1, (hb h0).2.mono (fun g h => .inl h)⟩
section
variable {w0 W W' : World} {G : Nat → Prop} {p m : Nat} {wk : Int} {ks : List KB} {rs : List RB} {S : CliS} {R : CR}
theorem cm_cv {N : Nat} (h : CM w0 G p m S.wk (cliL S m R) ks rs W) (hE : EOk S R) (hb : S.wk ≠ 0 → ⟨R.A, R.n, R.c, S.b⟩ ∈ rs) (hn : R.n2 = S.data.length) (hd : S.data ≠ [] → ⟨R.A2, R.n2, R.c2, S.data⟩ ∈ rs) (hN : W.heap.size ≤ N) :
    CV_ W (fun g => (G g ∨ w0.heap.size ≤ g) ∧ g < N) p m S := by
  have k : ∀ r ∈ rs, OwnB W 0 r.A r.n r.c r.l ∧ FIn (fun g => (G g ∨ w0.heap.size ≤ g) ∧ g < N) r.A := fun r hr => ⟨(h.rows r hr).1, fun g hg => ⟨(h.rows r hr).2 g hg, Nat.lt_of_lt_of_le ((h.rows r hr).1.own.fin g hg).2 hN⟩⟩
  exact ⟨R, h.blk, h.wm, hE, fun h0 => k _ (hb h0), hn, fun h0 => k _ (hd h0)⟩
theorem CV_.keep {w w' : World} {G H : Nat → Prop} {p m : Nat} {S : CliS} (h : CV_ w G p m S) (hk : ∀ q, q = p ∨ q = m ∨ G q → q < w.heap.size → w'.heap[q]? = w.heap[q]?) (hH : ∀ q, q < w.heap.size → G q → H q) : CV_ w' H p m S := by
  obtain ⟨R, hB, hm, hE, hb, hn, hd⟩ := h
  have k : ∀ {A : Option Addr} {n c : Nat} {l : List UInt8}, OwnB w 0 A n c l ∧ FIn G A → OwnB w' 0 A n c l ∧ FIn H A := fun {A n c l} h => ⟨⟨h.1.hn, h.1.own.keep fun g _ hlt hA => hk g (.inr (.inr (h.2 g hA))) hlt⟩, fun g hg => hH g (h.1.own.fin g hg).2 (h.2 g hg)⟩
  exact ⟨R, (hk p (.inl rfl) hB.lt).trans hB, hm.keep (hk m (.inr (.inl rfl)) hm.lt), hE, fun h0 => k (hb h0), hn, fun h0 => k (hd h0)⟩
/-- messages are sent, and that is all -/
theorem fin_cli {L : List Ms} {e : Ending} (h : CM w0 G p m S.wk (cliL S m R) ks rs W) (hE : EOk S R) (hb : S.wk ≠ 0 → ⟨R.A, R.n, R.c, S.b⟩ ∈ rs) (hn : R.n2 = S.data.length) (hd : S.data ≠ [] → ⟨R.A2, R.n2, R.c2, S.data⟩ ∈ rs) (hs : SendR (1536 + S.nd) L W e W') :
    CliR w0 G p m S (cSend S L) e W' := by
  obtain ⟨As, ns, cs, ds, rfl, hO, hbel⟩ := hs
  exact ⟨W.heap.size, As, ns, cs, ds, rfl, hO, h.size, (cm_cv h hE hb hn hd (Nat.le_refl _)).keep (fun q _ hq => hbel.block q hq) (fun _ _ h => h), (h.step hbel).only⟩
/-- nothing is sent -/
theorem fin_cli0 (h : CM w0 G p m S.wk (cliL S m R) ks rs W) (hE : EOk S R) (hb : S.wk ≠ 0 → ⟨R.A, R.n, R.c, S.b⟩ ∈ rs) (hn : R.n2 = S.data.length) (hd : S.data ≠ [] → ⟨R.A2, R.n2, R.c2, S.data⟩ ∈ rs) :
    CliR w0 G p m S [] (.returned (.slice none 0 0)) W :=
  ⟨W.heap.size, none, 0, 0, [], rfl, OwnF.nil _ _, h.size, cm_cv h hE hb hn hd (Nat.le_refl _), h.only⟩
/-- a call inside a method -/
theorem CliR.lift {w w1 : World} {G G' : Nat → Prop} {L : List Frm} {e : Ending} {w' : World} (h : CliR w1 G' p m S L e w') (ho : Only (fun q => q = p ∨ q = m ∨ G q) w w1) (hG : ∀ g, G' g → G g ∨ w.heap.size ≤ g) : CliR w G p m S L e w' := by
  obtain ⟨N, As, ns, cs, ds, he, hO, hN, hS, ho'⟩ := h
  have hz := ho.size
  refine ⟨N, As, ns, cs, ds, he, hO, Nat.le_trans hz hN, hS.keep (fun _ _ _ => rfl) ?_, ho.trans ho' ?_⟩
  · rintro q _ ⟨h1, h2⟩
    refine ⟨?_, h2⟩
    rcases h1 with h1 | h1
    · exact hG q h1
    · exact .inr (Nat.le_trans hz h1)
  · intro i hi h1
    rcases h1 with h1 | h1 | h1
    · exact .inl h1
    · exact .inr (.inl h1)
    · rcases hG i h1 with h2 | h2
      · exact .inr (.inr h2)
      · omega
theorem cm_calls {cs : List Value} {f : Nat} {args : Array Value} {Q : Ending → World → Prop} (h : CM w0 G p m wk cs ks rs W) (k : ∀ W', CM w0 G p m wk cs ks rs W' → Calls Try.prog f args W' Q) : Calls Try.prog f args W Q := k _ h
end
section
variable {w0 : World} {G : Nat → Prop} {p m : Nat} {ks : List KB} {rs : List RB}
theorem abM_ok (ix sub : Int) (code : Nat) (h : code ≤ 4294967295) : ∀ M ∈ [abM ix sub code], MsOk M := by
  intro M hM
  simp at hM
  subst hM
  exact ⟨Nat.zero_le _, h, Nat.zero_le _⟩
/-- the client gives up -/
theorem cl_fail (S : CliS) (R : CR) (code : Nat) (W : World) (h : CM w0 G p m S.wk (cliL S m R) ks rs W) (hw : 0 ≤ S.wk ∧ S.wk ≤ 21) (hE : EOk S R) (hc : code ≤ 4294967295) :
    Calls Try.prog 37 #[.pointer (some ⟨p, 0, none⟩), .int .u32 (code : Nat)] W (CliR w0 G p m (cEnd S code []) (cFailL S code)) := by
  have HC := hide h
  have HE := hide hE
  have HW := hide hw
  have HOK := hide (abM_ok S.ix S.sub code hc)
  obtain ⟨P, hP⟩ : ∃ P, P = CliR w0 G p m (cEnd S code []) (cFailL S code) := ⟨_, rfl⟩
  rw [← hP]
  have HP := hide hP
  clear h hE hw hc hP
  go_enter Try.func37, Try.ntmps37
  go_wp2_with fail
  refine (cl_end code none 0 0 [] W HC.out rfl rfl HW.out rfl (by omega) (fun _ _ => Sl.nil _ _)).mono ?_
  rintro e W1 ⟨rfl, A', c', h1⟩
  have H1 : Hid (CM w0 G p m 0 (cliL (cEnd S code []) m { R with A2 := A', n2 := 0, c2 := c' }) ks (⟨A', 0, c', []⟩ :: rs) W1) := hide h1
  have z1 := h1.lt
  have b4 : W1.cell? ⟨p, 4, none⟩ = some (.int .i64 S.ix) := H1.out.blk.cell 4 rfl
  have b5 : W1.cell? ⟨p, 5, none⟩ = some (.int .i64 S.sub) := H1.out.blk.cell 5 rfl
  have b1 : W1.cell? ⟨p, 1, none⟩ = some (.int .i64 (1536 + S.nd)) := H1.out.blk.cell 1 rfl
  clear h1 HC
  go_upto_region 2 with fail
  have HD1 := hide (H1.out.drew.alloc (.cells (msV (abM S.ix S.sub code) none 0 0) 63))
  have HB1 := hide (blk_one W1.drew 63 (msV (abM S.ix S.sub code) none 0 0))
  unfold msV abM at HD1 HB1
  refine wp_region_held_drew (S := (fun w' => (∀ qA : Addr, qA.block < (W1).heap.size → w'.cell? qA = (W1).cell? qA) ∧ Below (W1).heap.size (W1) w')) (by kernel_rfl) ?hS1 (fun hHeld => ?rest1)
  case hS1 => ((try dsimp only); (((try go_split_ands); refine sn_of ?_; repeat' (first | with_reducible assumption | with_reducible exact Below.refl _ _ | with_reducible apply below_alloc | with_reducible apply below_drew1 | with_reducible apply below_drewN | (with_reducible apply below_step; with_reducible assumption) | (with_reducible apply below_sg2; (first | exact Nat.le_refl _ | (simp; done) | omega))))))
  case' rest1 => skip
  refine wpAnyH_take (i := 0) (oi := _) (v := ?v2) rfl (by kernel_rfl) (by kernel_rfl) (by kernel_rfl) (fun _ _ _ h => h) (Or.inl ⟨by rfl, ?hy2⟩) (by assumption) ?rest2
  case hy2 => ((intro w hSw; (try dsimp only at hSw); go_simp) <;> with_reducible rfl)
  case' rest2 => try simp only [List.getElem_toArray, List.getElem_cons_zero, List.getElem_cons_succ, Act.put, List.setIfInBounds_toArray, List.set_cons_zero, List.set_cons_succ]
  refine wpAnyH_take (i := 1) (oi := _) (v := ?v3) rfl (by kernel_rfl) (by kernel_rfl) (by kernel_rfl) (fun _ _ _ h => h) (Or.inl ⟨by rfl, ?hy3⟩) (by assumption) ?rest3
  case hy3 => ((intro w hSw; (try dsimp only at hSw); go_simp) <;> with_reducible rfl)
  case' rest3 => try simp only [List.getElem_toArray, List.getElem_cons_zero, List.getElem_cons_succ, Act.put, List.setIfInBounds_toArray, List.set_cons_zero, List.set_cons_succ]
  refine wpAnyH_take (i := 2) (oi := _) (v := ?v4) rfl (by kernel_rfl) (by kernel_rfl) (by kernel_rfl) (fun _ _ _ h => h) (Or.inl ⟨by rfl, ?hy4⟩) (by assumption) ?rest4
  case hy4 => ((intro w hSw; (try dsimp only at hSw); go_simp) <;> with_reducible rfl)
  case' rest4 => try simp only [List.getElem_toArray, List.getElem_cons_zero, List.getElem_cons_succ, Act.put, List.setIfInBounds_toArray, List.set_cons_zero, List.set_cons_succ]
  refine wpAnyH_take (i := 3) (oi := _) (v := ?v5) rfl (by kernel_rfl) (by kernel_rfl) (by kernel_rfl) (fun _ _ _ h => h) (Or.inl ⟨by rfl, ?hy5⟩) (by assumption) ?rest5
  case hy5 => ((intro w hSw; (try dsimp only at hSw); go_simp) <;> with_reducible rfl)
  case' rest5 => try simp only [List.getElem_toArray, List.getElem_cons_zero, List.getElem_cons_succ, Act.put, List.setIfInBounds_toArray, List.set_cons_zero, List.set_cons_succ]
  refine wpAnyH_take (i := 4) (oi := _) (v := ?v6) rfl (by kernel_rfl) (by kernel_rfl) (by kernel_rfl) (fun _ _ _ h => h) (Or.inl ⟨by rfl, ?hy6⟩) (by assumption) ?rest6
  case hy6 => ((intro w hSw; (try dsimp only at hSw); go_simp) <;> with_reducible rfl)
  case' rest6 => try simp only [List.getElem_toArray, List.getElem_cons_zero, List.getElem_cons_succ, Act.put, List.setIfInBounds_toArray, List.set_cons_zero, List.set_cons_succ]
  refine wpAnyH_take (i := 5) (oi := _) (v := ?v7) rfl (by kernel_rfl) (by kernel_rfl) (by kernel_rfl) (fun _ _ _ h => h) (Or.inl ⟨by rfl, ?hy7⟩) (by assumption) ?rest7
  case hy7 => ((intro w hSw; (try dsimp only at hSw); go_simp) <;> with_reducible rfl)
  case' rest7 => try simp only [List.getElem_toArray, List.getElem_cons_zero, List.getElem_cons_succ, Act.put, List.setIfInBounds_toArray, List.set_cons_zero, List.set_cons_succ]
  refine wpAnyH_take (i := 6) (oi := _) (v := ?v8) rfl (by kernel_rfl) (by kernel_rfl) (by kernel_rfl) (fun _ _ _ h => h) (Or.inl ⟨by rfl, ?hy8⟩) (by assumption) ?rest8
  case hy8 => ((intro w hSw; (try dsimp only at hSw); go_simp) <;> with_reducible rfl)
  case' rest8 => try simp only [List.getElem_toArray, List.getElem_cons_zero, List.getElem_cons_succ, Act.put, List.setIfInBounds_toArray, List.set_cons_zero, List.set_cons_succ]
  refine wpAnyH_take (i := 7) (oi := _) (v := ?v9) rfl (by kernel_rfl) (by kernel_rfl) (by kernel_rfl) (fun _ _ _ h => h) (Or.inl ⟨by rfl, ?hy9⟩) (by assumption) ?rest9
  case hy9 => ((intro w hSw; (try dsimp only at hSw); go_simp) <;> with_reducible rfl)
  case' rest9 => try simp only [List.getElem_toArray, List.getElem_cons_zero, List.getElem_cons_succ, Act.put, List.setIfInBounds_toArray, List.set_cons_zero, List.set_cons_succ]
  refine wpAnyH_take (i := 8) (oi := _) (v := ?v10) rfl (by kernel_rfl) (by kernel_rfl) (by kernel_rfl) (fun _ _ _ h => h) (Or.inl ⟨by rfl, ?hy10⟩) (by assumption) ?rest10
  case hy10 => ((intro w hSw; (try dsimp only at hSw); go_simp) <;> with_reducible rfl)
  case' rest10 => try simp only [List.getElem_toArray, List.getElem_cons_zero, List.getElem_cons_succ, Act.put, List.setIfInBounds_toArray, List.set_cons_zero, List.set_cons_succ]
  refine wpAnyH_take (i := 9) (oi := _) (v := ?v11) rfl (by kernel_rfl) (by kernel_rfl) (by kernel_rfl) (fun _ _ _ h => h) (Or.inl ⟨by rfl, ?hy11⟩) (by assumption) ?rest11
  case hy11 => ((intro w hSw; (try dsimp only at hSw); go_simp) <;> with_reducible rfl)
  case' rest11 => try simp only [List.getElem_toArray, List.getElem_cons_zero, List.getElem_cons_succ, Act.put, List.setIfInBounds_toArray, List.set_cons_zero, List.set_cons_succ]
  refine wpAnyH_take (i := 10) (oi := _) (v := ?v12) rfl (by kernel_rfl) (by kernel_rfl) (by kernel_rfl) (fun _ _ _ h => h) (Or.inl ⟨by rfl, ?hy12⟩) (by assumption) ?rest12
  case hy12 => ((intro w hSw; (try dsimp only at hSw); go_simp) <;> with_reducible rfl)
  case' rest12 => try simp only [List.getElem_toArray, List.getElem_cons_zero, List.getElem_cons_succ, Act.put, List.setIfInBounds_toArray, List.set_cons_zero, List.set_cons_succ]
  refine wpAnyH_take (i := 11) (oi := _) (v := ?v13) rfl (by kernel_rfl) (by kernel_rfl) (by kernel_rfl) (fun _ _ _ h => h) (Or.inl ⟨by rfl, ?hy13⟩) (by assumption) ?rest13
  case hy13 => ((intro w hSw; (try dsimp only at hSw); go_simp) <;> with_reducible rfl)
  case' rest13 => try simp only [List.getElem_toArray, List.getElem_cons_zero, List.getElem_cons_succ, Act.put, List.setIfInBounds_toArray, List.set_cons_zero, List.set_cons_succ]
  refine wpAnyH_take (i := 12) (oi := _) (v := ?v14) rfl (by kernel_rfl) (by kernel_rfl) (by kernel_rfl) (fun _ _ _ h => h) (Or.inl ⟨by rfl, ?hy14⟩) (by assumption) ?rest14
  case hy14 => ((intro w hSw; (try dsimp only at hSw); go_simp) <;> with_reducible rfl)
  case' rest14 => try simp only [List.getElem_toArray, List.getElem_cons_zero, List.getElem_cons_succ, Act.put, List.setIfInBounds_toArray, List.set_cons_zero, List.set_cons_succ]
  refine wpAnyH_ready (rs := [13]) (by kernel_rfl) (by simp) ?_
  refine AllReadyH.cons (o := _) rfl (fun K hK => ?_) AllReadyH.nil
  go_simp
  refine hK.out _ _ ?hS17 (fun hHeld => ?rest17)
  case hS17 => ((try dsimp only); (((try go_split_ands); refine sn_of ?_; repeat' (first | with_reducible assumption | with_reducible exact Below.refl _ _ | with_reducible apply below_alloc | with_reducible apply below_drew1 | with_reducible apply below_drewN | (with_reducible apply below_step; with_reducible assumption) | (with_reducible apply below_sg2; (first | exact Nat.le_refl _ | (simp; done) | omega))))))
  case' rest17 => (clear hK K; try simp only [List.getElem_toArray, List.getElem_cons_zero, List.getElem_cons_succ, Act.put, List.setIfInBounds_toArray, List.set_cons_zero, List.set_cons_succ])
  refine wpAnyH_ready (rs := [14]) (by kernel_rfl) (by simp) ?_
  refine AllReadyH.cons (o := _) rfl (fun K hK => ?_) AllReadyH.nil
  go_simp
  refine (cl_send p (1536 + S.nd) [abM S.ix S.sub code] _ 1 1 _ (HD1.out.blk.cell 1 rfl) rfl (slm_one (M := abM S.ix S.sub code) HB1.out rfl (Sl.nil _ _)) HOK.out (by omega)).mono ?_
  rintro e w2 ⟨As, ns, cs, ds, rfl, hO, hb⟩
  have HF := hide (fin_cli (S := cEnd S code []) (R := { R with A2 := A', n2 := 0, c2 := c' }) HD1.out HE.out (fun h => absurd rfl h) rfl (fun h => absurd rfl h) ⟨As, ns, cs, ds, rfl, hO, hb⟩)
  clear hO
  refine hK.out _ _ ?hS20 (fun hHeld => ?rest20)
  case hS20 => ((try dsimp only); (((try go_split_ands); refine sn_of ?_; repeat' (first | with_reducible assumption | with_reducible exact Below.refl _ _ | with_reducible apply below_alloc | with_reducible apply below_drew1 | with_reducible apply below_drewN | (with_reducible apply below_step; with_reducible assumption) | (with_reducible apply below_sg2; (first | exact Nat.le_refl _ | (simp; done) | omega))))))
  case' rest20 => (clear hK K; try simp only [List.getElem_toArray, List.getElem_cons_zero, List.getElem_cons_succ, Act.put, List.setIfInBounds_toArray, List.set_cons_zero, List.set_cons_succ])
  refine wpAnyH_take (i := 15) (oi := _) (v := ?v21) rfl (by kernel_rfl) (by kernel_rfl) (by kernel_rfl) (fun _ _ _ h => h) (Or.inl ⟨by rfl, ?hy21⟩) (by assumption) ?rest21
  case hy21 => ((intro w hSw; (try dsimp only at hSw); go_simp) <;> with_reducible rfl)
  case' rest21 => try simp only [List.getElem_toArray, List.getElem_cons_zero, List.getElem_cons_succ, Act.put, List.setIfInBounds_toArray, List.set_cons_zero, List.set_cons_succ]
  refine wpAnyH_done (by kernel_rfl) ?_ _
  have hEnd := hHeld.2
  repeat (clear hHeld)
  go_wp2_with fail
  rw [HP.out]
  exact HF.out
theorem useg_ok (tg : Bool) : ∀ M ∈ [usegM tg], MsOk M := by
  intro M hM
  simp at hM
  subst hM
  exact ⟨Nat.zero_le _, Nat.zero_le _, Nat.zero_le _⟩
/-- the next segment of an upload is asked -/
theorem cl_more (S : CliS) (R : CR) (W : World) (h : CM w0 G p m S.wk (cliL S m R) ks rs W) (hw : 0 ≤ S.wk ∧ S.wk ≤ 21) (hE : EOk S R) (hb : ⟨R.A, R.n, R.c, S.b⟩ ∈ rs) (hn : R.n2 = S.data.length) (hd : S.data = []) :
    Calls Try.prog 56 #[.pointer (some ⟨p, 0, none⟩)] W (CliR w0 G p m (cMoreS S) (cMoreL S)) := by
  have HC := hide h
  have HE := hide hE
  have HW := hide hw
  have HB := hide hb
  have HN := hide hn
  have HD := hide hd
  obtain ⟨P, hP⟩ : ∃ P, P = CliR w0 G p m (cMoreS S) (cMoreL S) := ⟨_, rfl⟩
  rw [← hP]
  have HP := hide hP
  clear h hE hw hP hb hn hd
  go_enter Try.func56, Try.ntmps56
  go_wp2_with fail
  refine (cl_wait 15 W HC.out rfl HW.out ⟨by omega, by omega⟩).mono ?_
  rintro e W1 ⟨rfl, h1⟩
  have H1 : Hid (CM w0 G p m (cMoreS S).wk (cliL (cMoreS S) m R) ks rs W1) := hide h1
  have z1 := h1.lt
  have b20 : W1.cell? ⟨p, 20, none⟩ = some (.bool S.tg) := H1.out.blk.cell 20 rfl
  have HD1 := hide (H1.out.alloc (.cells (msV (usegM S.tg) none 0 0) 63))
  have HB1 := hide (blk_one W1 63 (msV (usegM S.tg) none 0 0))
  unfold msV usegM at HD1 HB1
  clear h1 HC
  go_wp2_with fail
  refine (cl_send p (1536 + S.nd) [usegM S.tg] _ 1 1 _ (HD1.out.blk.cell 1 rfl) rfl (slm_one (M := usegM S.tg) HB1.out rfl (Sl.nil _ _)) (useg_ok _) (by omega)).mono ?_
  rintro e w2 ⟨As, ns, cs, ds, rfl, hO, hb⟩
  have HF := hide (fin_cli (S := cMoreS S) (R := R) (L := [usegM S.tg]) HD1.out HE.out (fun _ => HB.out) HN.out (fun h => absurd HD.out h) ⟨As, ns, cs, ds, rfl, hO, hb⟩)
  clear hO hb
  go_wp2_with fail
  rw [HP.out]
  exact HF.out
theorem cl_sized (S : CliS) (R : CR) (k : Int) (W : World) (h : CM w0 G p m S.wk (cliL S m R) ks rs W) (hE : EOk S R) :
    Calls Try.prog 79 #[.pointer (some ⟨p, 0, none⟩), .int .i64 k] W fun e W' => e = .returned (.bool (cSzB S k)) ∧ W = W' := by
  obtain ⟨hE1, hE2, hE3, hE4⟩ := hE
  have w64 : wrap64 (S.en : Int) = (S.en : Int) := by unfold wrap64; omega
  have z := h.lt
  have b27 : W.cell? ⟨p, 27, none⟩ = some (.bool S.es) := by rw [← hE2]; exact h.blk.cell 27 rfl
  have b28 : W.cell? ⟨p, 28, none⟩ = some (.int .u32 (S.en : Nat)) := by rw [← hE3]; exact h.blk.cell 28 rfl
  have HR : Hid (cSzB S k = (!S.es || decide (k = (S.en : Int)))) := hide rfl
  clear h hE1 hE2 hE3 hE4
  obtain ⟨es, hes⟩ : ∃ es, es = S.es := ⟨_, rfl⟩
  rw [← hes] at b27 HR
  cases es
  · clear hes
    go_enter Try.func79, Try.ntmps79
    go_wp2_with fail
    go_ret
    exact ⟨by rw [HR.out]; rfl, rfl⟩
  · clear hes
    go_enter Try.func79, Try.ntmps79
    go_wp2_with fail
    go_ret
    exact ⟨by rw [HR.out]; simp; rfl, rfl⟩
theorem cl_total (S : CliS) (R : CR) (W : World) (h : CM w0 G p m S.wk (cliL S m R) ks rs W) (hn : R.n = S.b.length) (h1 : R.n ≤ 100000) :
    Calls Try.prog 80 #[.pointer (some ⟨p, 0, none⟩)] W fun e W' => e = .returned (.int .i64 (btotal S.b : Nat)) ∧ W = W' := by
  have b17 : W.cell? ⟨p, 17, none⟩ = some (.slice R.A R.n R.c) := h.blk.cell 17 rfl
  have HT := hide (btot22 S.b R.n hn)
  have hz := h.lt
  obtain ⟨t, ht⟩ : ∃ t, t = btotal S.b := ⟨_, rfl⟩
  rw [← ht] at HT
  rw [← ht]
  obtain ⟨n, hnn⟩ : ∃ n, n = R.n := ⟨_, rfl⟩
  rw [← hnn] at HT b17 h1
  clear hn h ht hnn
  by_cases h7 : 1 < ((n : Int) + 7 - 1) / 7
  · have e : (t : Int) = ((n : Int) + 7 - 1) / 7 := by have := HT.out; split at this <;> omega
    have HE := hide e
    clear e
    go_enter Try.func80, Try.ntmps80
    go_wp2_with fail
    go_ret
    exact ⟨by rw [HE.out]; rfl, rfl⟩
  · have e : (t : Int) = 1 := by have := HT.out; split at this <;> omega
    have HE := hide e
    clear e
    go_enter Try.func80, Try.ntmps80
    go_wp2_with fail
    go_ret
    exact ⟨by rw [HE.out]; rfl, rfl⟩
end
end Go.Proofs.Ythdbckbpldlkeaa

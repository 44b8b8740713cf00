/- Package client: New, segment. -/
import Derived.Test.YthdbckbpldlkeaaCliC
import Derived.BigQuiet
namespace Go.Proofs.Ythdbckbpldlkeaa
set_option linter.unusedVariables false
set_option linter.unusedSimpArgs false
set_option linter.unnecessarySimpa false
open Go.RowKit Go.Maps
set_option maxRecDepth 100000
set_option maxHeartbeats 4000000
section
variable {w0 : World} {G : Nat → Prop} {p m : Nat} {ks : List KB} {rs : List RB}
theorem dseg_ok (tg la : Bool) (d : List UInt8) : ∀ M ∈ [dsegM tg la d], MsOk M := by
  intro M hM
  simp at hM
  subst hM
  exact ⟨Nat.zero_le _, Nat.zero_le _, Nat.zero_le _⟩
theorem seg_b (b : List UInt8) (a t_ : Nat) (A : Option Addr) (c : Nat) {W : World} (h : Sl W A (b.map bv)) (hc : b.length ≤ c) : Sl W (cutA A c a 1) (((b.drop a).take (t_ - a)).map bv) := by
  have := (h.cutA (k := a) (c := c) (s := 1) (by simpa using hc) (by omega)).take (t_ - a)
  simpa [List.map_take, List.map_drop] using this
theorem cl_segment_end (S : CliS) (R : CR) (W : World) (h : CM w0 G p m S.wk (cliL S m R) ks rs W) (hw : 0 ≤ S.wk ∧ S.wk ≤ 21) (hE : EOk S R) (hb : ⟨R.A, R.n, R.c, S.b⟩ ∈ rs) (hlt : (S.b.length : Int) < S.at_) :
    Calls Try.prog 55 #[.pointer (some ⟨p, 0, none⟩)] W (CliR w0 G p m (cSegS S) (cSegL S)) := by
  have HC := hide h
  have HE := hide hE
  have HW := hide hw
  have hn := (h.rows _ hb).1.hn
  have hlt' : (R.n : Int) < S.at_ := by rw [show R.n = S.b.length from hn]; exact hlt
  obtain ⟨P, hP⟩ : ∃ P, P = CliR w0 G p m (cSegS S) (cSegL S) := ⟨_, rfl⟩
  have HP : Hid (P = CliR w0 G p m (cEnd S 0 []) []) := hide (by rw [hP]; unfold cSegS cSegL; rw [if_pos hlt, if_pos hlt])
  rw [← hP]
  have z := h.lt
  have b17 : W.cell? ⟨p, 17, none⟩ = some (.slice R.A R.n R.c) := h.blk.cell 17 rfl
  have b18 : W.cell? ⟨p, 18, none⟩ = some (.int .i64 S.at_) := h.blk.cell 18 rfl
  clear h hE hw hP hb hlt hn
  go_enter Try.func55, Try.ntmps55
  go_upto_region 1 with fail
  go_quiet (fail)
  go_wp2_with fail
  refine (cl_end 0 none 0 0 [] _ (HC.out.step (below_drewN (Below.refl _ _) _)) rfl rfl HW.out rfl (by omega) (fun _ _ => Sl.nil _ _)).mono ?_
  rintro e W1 ⟨rfl, A', c', h1⟩
  have HF := hide (fin_cli0 (S := cEnd S 0 []) (R := { R with A2 := A', n2 := 0, c2 := c' }) h1 HE.out (fun h => absurd rfl h) rfl (fun h => absurd rfl h))
  clear h1
  go_wp2_with fail
  rw [HP.out]
  exact HF.out
theorem cl_segment_go (S : CliS) (R : CR) (W : World) (h : CM w0 G p m S.wk (cliL S m R) ks rs W) (hw : 0 ≤ S.wk ∧ S.wk ≤ 21) (hE : EOk S R) (hb : ⟨R.A, R.n, R.c, S.b⟩ ∈ rs) (hn2 : R.n2 = S.data.length) (hd : S.data = []) (hl : S.b.length ≤ 100000) (a : Nat) (ha : S.at_ = (a : Int)) (hal : a ≤ S.b.length) :
    Calls Try.prog 55 #[.pointer (some ⟨p, 0, none⟩)] W (CliR w0 G p m (cSegS S) (cSegL S)) := by
  have HC := hide h
  have HE := hide hE
  have HW := hide hw
  have HB := hide hb
  have HN2 := hide hn2
  have HD := hide hd
  have hO := (h.rows _ hb).1
  have hn : R.n = S.b.length := hO.hn
  have hc : R.n ≤ R.c := hO.le
  have HO := hide hO
  obtain ⟨n, hnn⟩ : ∃ n, n = R.n := ⟨_, rfl⟩
  have HNN := hide hnn
  have HN : Hid (n = S.b.length) := hide (by rw [hnn, hn])
  obtain ⟨t_, hto⟩ : ∃ t_ : Nat, t_ = min n (a + 7) := ⟨_, rfl⟩
  have HTO := hide hto
  have hmin : (if (a : Int) + 7 < (n : Int) then (a : Int) + 7 else (n : Int)) = (t_ : Int) := by rw [hto]; split <;> omega
  have han : a ≤ t_ := by omega
  have htn : t_ ≤ n := by omega
  have hn1 : n ≤ 100000 := by omega
  have hcc : n ≤ R.c := by omega
  have HA := hide ha
  obtain ⟨la, hla⟩ : ∃ la : Bool, la = decide ((t_ : Int) = (n : Int)) := ⟨_, rfl⟩
  have hcut := fun W => cut2_b R.A n R.c a t_ (a : Int) (t_ : Int) .i64 .i64 rfl rfl han (by omega) W
  have z := h.lt
  have b17 : W.cell? ⟨p, 17, none⟩ = some (.slice R.A n R.c) := by rw [hnn]; exact h.blk.cell 17 rfl
  have b18 : W.cell? ⟨p, 18, none⟩ = some (.int .i64 (a : Int)) := by rw [← ha]; exact h.blk.cell 18 rfl
  have b20 : W.cell? ⟨p, 20, none⟩ = some (.bool S.tg) := h.blk.cell 20 rfl
  have hna : ¬ (n : Int) < (a : Int) := by omega
  have hcto : cTo S = (t_ : Int) := by unfold cTo; rw [ha, hto, hnn, hn]; omega
  have hcla : cLa S = la := by unfold cLa; rw [hcto, hla, hnn, hn]
  have hnl : ¬ (S.b.length : Int) < S.at_ := by omega
  obtain ⟨P, hP⟩ : ∃ P, P = CliR w0 G p m (cSegS S) (cSegL S) := ⟨_, rfl⟩
  have HP : Hid (P = CliR w0 G p m { S with at_ := if la = true then (t_ : Int) + 1 else (t_ : Int), wk := 13 } (cSend S [dsegM S.tg la ((S.b.drop a).take (t_ - a))])) := hide (by
    rw [hP]
    unfold cSegS cSegL cSegD
    rw [if_neg hnl, if_neg hnl, hcla, hcto, ha, Int.toNat_natCast, show ((t_ : Int) - (a : Int)).toNat = t_ - a by omega])
  rw [← hP]
  have hlaB : ((t_ : Int) == (n : Int)) = la := by rw [hla]; rfl
  clear h hE hw hP hb hn2 hd hO hn hc hnn hto hla hcto hcla ha hal hl hnl
  go_enter Try.func55, Try.ntmps55
  go_upto_region 1 with fail
  go_quiet (fail)
  go_upto_region 3 with fail
  go_quiet (fail)
  go_upto_region 4 with fail
  refine wp_gen (P := CM w0 G p m S.wk (cliL S m R) ks rs) (HC.out.step (below_drewN (below_drewN (Below.refl _ _) _) _)) (fun W2 h2 => ?_)
  clear b17 b18 b20 z HC
  have z := h2.lt
  have b17 : W2.cell? ⟨p, 17, none⟩ = some (.slice R.A n R.c) := by rw [HNN.out]; exact h2.blk.cell 17 rfl
  have b18 : W2.cell? ⟨p, 18, none⟩ = some (.int .i64 (a : Int)) := by rw [← HA.out]; exact h2.blk.cell 18 rfl
  have b20 : W2.cell? ⟨p, 20, none⟩ = some (.bool S.tg) := h2.blk.cell 20 rfl
  obtain ⟨dd, hdd⟩ : ∃ dd, dd = (S.b.drop a).take (t_ - a) := ⟨_, rfl⟩
  have HDD := hide hdd
  have hdl : t_ - a = dd.length := by rw [hdd, List.length_take, List.length_drop, ← HN.out]; omega
  have HDL := hide hdl
  obtain ⟨A5, hA5⟩ : ∃ A5, A5 = cutA R.A R.c a 1 := ⟨_, rfl⟩
  have HA5 := hide hA5
  rw [← hA5] at hcut
  have H3 := hide ((h2.new 63 (msV (dsegM S.tg la dd) A5 (t_ - a) (R.c - a)).toList (by decide)).drew)
  clear h2 hdd hdl hA5
  refine wp_region_held_drew (S := (fun w' => (∀ qA : Addr, qA.block < (W2).heap.size → w'.cell? qA = (W2).cell? qA) ∧ Below (W2).heap.size (W2) w')) (by kernel_rfl) ?hS1 (fun hHeld => ?rest1)
  case hS1 => ((try dsimp only); (((try go_split_ands); refine sn_of ?_; repeat' (first | with_reducible assumption | with_reducible exact Below.refl _ _ | with_reducible apply below_alloc | with_reducible apply below_drew1 | with_reducible apply below_drewN | (with_reducible apply below_step; with_reducible assumption) | (with_reducible apply below_sg2; (first | exact Nat.le_refl _ | (simp; done) | omega))))))
  case' rest1 => skip
  refine wpAnyH_take (i := 0) (oi := _) (v := ?v2) rfl (by kernel_rfl) (by kernel_rfl) (by kernel_rfl) (fun _ _ _ h => h) (Or.inl ⟨by rfl, ?hy2⟩) (by assumption) ?rest2
  case hy2 => ((intro w hSw; (try dsimp only at hSw); go_simp) <;> with_reducible rfl)
  case' rest2 => try simp only [List.getElem_toArray, List.getElem_cons_zero, List.getElem_cons_succ, Act.put, List.setIfInBounds_toArray, List.set_cons_zero, List.set_cons_succ]
  refine wpAnyH_take (i := 1) (oi := _) (v := ?v3) rfl (by kernel_rfl) (by kernel_rfl) (by kernel_rfl) (fun _ _ _ h => h) (Or.inl ⟨by rfl, ?hy3⟩) (by assumption) ?rest3
  case hy3 => ((intro w hSw; (try dsimp only at hSw); go_simp) <;> with_reducible rfl)
  case' rest3 => try simp only [List.getElem_toArray, List.getElem_cons_zero, List.getElem_cons_succ, Act.put, List.setIfInBounds_toArray, List.set_cons_zero, List.set_cons_succ]
  refine wpAnyH_take (i := 2) (oi := _) (v := ?v4) rfl (by kernel_rfl) (by kernel_rfl) (by kernel_rfl) (fun _ _ _ h => h) (Or.inl ⟨by rfl, ?hy4⟩) (by assumption) ?rest4
  case hy4 => ((intro w hSw; (try dsimp only at hSw); go_simp) <;> with_reducible rfl)
  case' rest4 => try simp only [List.getElem_toArray, List.getElem_cons_zero, List.getElem_cons_succ, Act.put, List.setIfInBounds_toArray, List.set_cons_zero, List.set_cons_succ]
  refine wpAnyH_take (i := 3) (oi := _) (v := ?v5) rfl (by kernel_rfl) (by kernel_rfl) (by kernel_rfl) (fun _ _ _ h => h) (Or.inl ⟨by rfl, ?hy5⟩) (by assumption) ?rest5
  case hy5 => ((intro w hSw; (try dsimp only at hSw); go_simp) <;> with_reducible rfl)
  case' rest5 => try simp only [List.getElem_toArray, List.getElem_cons_zero, List.getElem_cons_succ, Act.put, List.setIfInBounds_toArray, List.set_cons_zero, List.set_cons_succ]
  refine wpAnyH_take (i := 4) (oi := _) (v := ?v6) rfl (by kernel_rfl) (by kernel_rfl) (by kernel_rfl) (fun _ _ _ h => h) (Or.inl ⟨by rfl, ?hy6⟩) (by assumption) ?rest6
  case hy6 => ((intro w hSw; (try dsimp only at hSw); go_simp) <;> with_reducible rfl)
  case' rest6 => try simp only [List.getElem_toArray, List.getElem_cons_zero, List.getElem_cons_succ, Act.put, List.setIfInBounds_toArray, List.set_cons_zero, List.set_cons_succ]
  refine wpAnyH_take (i := 5) (oi := _) (v := ?v7) rfl (by kernel_rfl) (by kernel_rfl) (by kernel_rfl) (fun _ _ _ h => h) (Or.inl ⟨by rfl, ?hy7⟩) (by assumption) ?rest7
  case hy7 => ((intro w hSw; (try dsimp only at hSw); go_simp) <;> with_reducible rfl)
  case' rest7 => try simp only [List.getElem_toArray, List.getElem_cons_zero, List.getElem_cons_succ, Act.put, List.setIfInBounds_toArray, List.set_cons_zero, List.set_cons_succ]
  refine wpAnyH_take (i := 6) (oi := _) (v := ?v8) rfl (by kernel_rfl) (by kernel_rfl) (by kernel_rfl) (fun _ _ _ h => h) (Or.inl ⟨by rfl, ?hy8⟩) (by assumption) ?rest8
  case hy8 => ((intro w hSw; (try dsimp only at hSw); go_simp) <;> with_reducible rfl)
  case' rest8 => try simp only [List.getElem_toArray, List.getElem_cons_zero, List.getElem_cons_succ, Act.put, List.setIfInBounds_toArray, List.set_cons_zero, List.set_cons_succ]
  refine wpAnyH_take (i := 7) (oi := _) (v := ?v9) rfl (by kernel_rfl) (by kernel_rfl) (by kernel_rfl) (fun _ _ _ h => h) (Or.inl ⟨by rfl, ?hy9⟩) (by assumption) ?rest9
  case hy9 => ((intro w hSw; (try dsimp only at hSw); go_simp) <;> with_reducible rfl)
  case' rest9 => try simp only [List.getElem_toArray, List.getElem_cons_zero, List.getElem_cons_succ, Act.put, List.setIfInBounds_toArray, List.set_cons_zero, List.set_cons_succ]
  refine wpAnyH_take (i := 8) (oi := _) (v := ?v10) rfl (by kernel_rfl) (by kernel_rfl) (by kernel_rfl) (fun _ _ _ h => h) (Or.inl ⟨by rfl, ?hy10⟩) (by assumption) ?rest10
  case hy10 => ((intro w hSw; (try dsimp only at hSw); go_simp) <;> with_reducible rfl)
  case' rest10 => try simp only [List.getElem_toArray, List.getElem_cons_zero, List.getElem_cons_succ, Act.put, List.setIfInBounds_toArray, List.set_cons_zero, List.set_cons_succ]
  refine wpAnyH_take (i := 9) (oi := _) (v := ?v11) rfl (by kernel_rfl) (by kernel_rfl) (by kernel_rfl) (fun _ _ _ h => h) (Or.inl ⟨by rfl, ?hy11⟩) (by assumption) ?rest11
  case hy11 => ((intro w hSw; (try dsimp only at hSw); go_simp) <;> with_reducible rfl)
  case' rest11 => try simp only [List.getElem_toArray, List.getElem_cons_zero, List.getElem_cons_succ, Act.put, List.setIfInBounds_toArray, List.set_cons_zero, List.set_cons_succ]
  refine wpAnyH_take (i := 10) (oi := _) (v := ?v12) rfl (by kernel_rfl) (by kernel_rfl) (by kernel_rfl) (fun _ _ _ h => h) (Or.inl ⟨by rfl, ?hy12⟩) (by assumption) ?rest12
  case hy12 => ((intro w hSw; (try dsimp only at hSw); go_simp) <;> with_reducible rfl)
  case' rest12 => try simp only [List.getElem_toArray, List.getElem_cons_zero, List.getElem_cons_succ, Act.put, List.setIfInBounds_toArray, List.set_cons_zero, List.set_cons_succ]
  refine wpAnyH_take (i := 11) (oi := _) (v := ?v13) rfl (by kernel_rfl) (by kernel_rfl) (by kernel_rfl) (fun _ _ _ h => h) (Or.inl ⟨by rfl, ?hy13⟩) (by assumption) ?rest13
  case hy13 => ((intro w hSw; (try dsimp only at hSw); go_simp) <;> with_reducible rfl)
  case' rest13 => try simp only [List.getElem_toArray, List.getElem_cons_zero, List.getElem_cons_succ, Act.put, List.setIfInBounds_toArray, List.set_cons_zero, List.set_cons_succ]
  refine wpAnyH_take (i := 12) (oi := _) (v := ?v14) rfl (by kernel_rfl) (by kernel_rfl) (by kernel_rfl) (fun _ _ _ h => h) (Or.inl ⟨by rfl, ?hy14⟩) (by assumption) ?rest14
  case hy14 => ((intro w hSw; (try dsimp only at hSw); go_simp) <;> with_reducible rfl)
  case' rest14 => try simp only [List.getElem_toArray, List.getElem_cons_zero, List.getElem_cons_succ, Act.put, List.setIfInBounds_toArray, List.set_cons_zero, List.set_cons_succ]
  refine wpAnyH_take (i := 13) (oi := _) (v := ?v15) rfl (by kernel_rfl) (by kernel_rfl) (by kernel_rfl) (fun _ _ _ h => h) (Or.inl ⟨by rfl, ?hy15⟩) (by assumption) ?rest15
  case hy15 => ((intro w hSw; (try dsimp only at hSw); go_simp) <;> with_reducible rfl)
  case' rest15 => try simp only [List.getElem_toArray, List.getElem_cons_zero, List.getElem_cons_succ, Act.put, List.setIfInBounds_toArray, List.set_cons_zero, List.set_cons_succ]
  refine wpAnyH_take (i := 14) (oi := _) (v := ?v16) rfl (by kernel_rfl) (by kernel_rfl) (by kernel_rfl) (fun _ _ _ h => h) (Or.inl ⟨by rfl, ?hy16⟩) (by assumption) ?rest16
  case hy16 => ((intro w hSw; (try dsimp only at hSw); go_simp) <;> with_reducible rfl)
  case' rest16 => try simp only [List.getElem_toArray, List.getElem_cons_zero, List.getElem_cons_succ, Act.put, List.setIfInBounds_toArray, List.set_cons_zero, List.set_cons_succ]
  refine wpAnyH_take (i := 15) (oi := _) (v := ?v17) rfl (by kernel_rfl) (by kernel_rfl) (by kernel_rfl) (fun _ _ _ h => h) (Or.inl ⟨by rfl, ?hy17⟩) (by assumption) ?rest17
  case hy17 => ((intro w hSw; (try dsimp only at hSw); go_simp) <;> with_reducible rfl)
  case' rest17 => try simp only [List.getElem_toArray, List.getElem_cons_zero, List.getElem_cons_succ, Act.put, List.setIfInBounds_toArray, List.set_cons_zero, List.set_cons_succ]
  refine wpAnyH_take (i := 16) (oi := _) (v := ?v18) rfl (by kernel_rfl) (by kernel_rfl) (by kernel_rfl) (fun _ _ _ h => h) (Or.inl ⟨by rfl, ?hy18⟩) (by assumption) ?rest18
  case hy18 => ((intro w hSw; (try dsimp only at hSw); go_simp) <;> with_reducible rfl)
  case' rest18 => try simp only [List.getElem_toArray, List.getElem_cons_zero, List.getElem_cons_succ, Act.put, List.setIfInBounds_toArray, List.set_cons_zero, List.set_cons_succ]
  refine wpAnyH_take (i := 17) (oi := _) (v := ?v19) rfl (by kernel_rfl) (by kernel_rfl) (by kernel_rfl) (fun _ _ _ h => h) (Or.inl ⟨by rfl, ?hy19⟩) (by assumption) ?rest19
  case hy19 => ((intro w hSw; (try dsimp only at hSw); go_simp) <;> with_reducible rfl)
  case' rest19 => try simp only [List.getElem_toArray, List.getElem_cons_zero, List.getElem_cons_succ, Act.put, List.setIfInBounds_toArray, List.set_cons_zero, List.set_cons_succ]
  refine wpAnyH_take (i := 18) (oi := _) (v := ?v20) rfl (by kernel_rfl) (by kernel_rfl) (by kernel_rfl) (fun _ _ _ h => h) (Or.inl ⟨by rfl, ?hy20⟩) (by assumption) ?rest20
  case hy20 => ((intro w hSw; (try dsimp only at hSw); go_simp) <;> with_reducible rfl)
  case' rest20 => try simp only [List.getElem_toArray, List.getElem_cons_zero, List.getElem_cons_succ, Act.put, List.setIfInBounds_toArray, List.set_cons_zero, List.set_cons_succ]
  refine wpAnyH_take (i := 19) (oi := _) (v := ?v21) rfl (by kernel_rfl) (by kernel_rfl) (by kernel_rfl) (fun _ _ _ h => h) (Or.inl ⟨by rfl, ?hy21⟩) (by assumption) ?rest21
  case hy21 => ((intro w hSw; (try dsimp only at hSw); go_simp) <;> with_reducible rfl)
  case' rest21 => try simp only [List.getElem_toArray, List.getElem_cons_zero, List.getElem_cons_succ, Act.put, List.setIfInBounds_toArray, List.set_cons_zero, List.set_cons_succ]
  refine wpAnyH_take (i := 20) (oi := _) (v := ?v22) rfl (by kernel_rfl) (by kernel_rfl) (by kernel_rfl) (fun _ _ _ h => h) (Or.inl ⟨by rfl, ?hy22⟩) (by assumption) ?rest22
  case hy22 => ((intro w hSw; (try dsimp only at hSw); go_simp) <;> with_reducible rfl)
  case' rest22 => try simp only [List.getElem_toArray, List.getElem_cons_zero, List.getElem_cons_succ, Act.put, List.setIfInBounds_toArray, List.set_cons_zero, List.set_cons_succ]
  refine wpAnyH_take (i := 21) (oi := _) (v := ?v23) rfl (by kernel_rfl) (by kernel_rfl) (by kernel_rfl) (fun _ _ _ h => h) (Or.inl ⟨by rfl, ?hy23⟩) (by assumption) ?rest23
  case hy23 => ((intro w hSw; (try dsimp only at hSw); go_simp) <;> with_reducible rfl)
  case' rest23 => try simp only [List.getElem_toArray, List.getElem_cons_zero, List.getElem_cons_succ, Act.put, List.setIfInBounds_toArray, List.set_cons_zero, List.set_cons_succ]
  refine wpAnyH_ready (rs := [22]) (by kernel_rfl) (by simp) ?_
  refine AllReadyH.cons (o := _) rfl (fun K hK => ?_) AllReadyH.nil
  go_simp
  refine hK.out _ _ ?hS26 (fun hHeld => ?rest26)
  case hS26 => ((try dsimp only); (((try go_split_ands); refine sn_of ?_; repeat' (first | with_reducible assumption | with_reducible exact Below.refl _ _ | with_reducible apply below_alloc | with_reducible apply below_drew1 | with_reducible apply below_drewN | (with_reducible apply below_step; with_reducible assumption) | (with_reducible apply below_sg2; (first | exact Nat.le_refl _ | (simp; done) | omega))))))
  case' rest26 => (clear hK K; try simp only [List.getElem_toArray, List.getElem_cons_zero, List.getElem_cons_succ, Act.put, List.setIfInBounds_toArray, List.set_cons_zero, List.set_cons_succ])
  refine wpAnyH_ready (rs := [23]) (by kernel_rfl) (by simp) ?_
  refine AllReadyH.cons (o := _) rfl (fun K hK => ?_) AllReadyH.nil
  go_simp
  refine hK.out _ _ ?hS29 (fun hHeld => ?rest29)
  case hS29 => ((try dsimp only); (((try go_split_ands); refine sn_of ?_; repeat' (first | with_reducible assumption | with_reducible exact Below.refl _ _ | with_reducible apply below_alloc | with_reducible apply below_drew1 | with_reducible apply below_drewN | (with_reducible apply below_step; with_reducible assumption) | (with_reducible apply below_sg2; (first | exact Nat.le_refl _ | (simp; done) | omega))))))
  case' rest29 => (clear hK K; try simp only [List.getElem_toArray, List.getElem_cons_zero, List.getElem_cons_succ, Act.put, List.setIfInBounds_toArray, List.set_cons_zero, List.set_cons_succ])
  refine wpAnyH_done (by kernel_rfl) ?_ _
  have hEnd := hHeld.2
  repeat (clear hHeld)
  have H4 : Hid (CM w0 G p m S.wk (cliL S m R) (⟨W2.heap.size, 63, (msV (dsegM S.tg la dd) A5 (t_ - a) (R.c - a)).toList⟩ :: ks) rs (W2.alloc (.cells (msV (dsegM S.tg la dd) A5 (t_ - a) (R.c - a)) 63)).drew) := H3
  have HSG : Hid (∀ W, Sl W R.A (S.b.map bv) → Sl W A5 (dd.map bv)) := hide (fun W h => by rw [HA5.out, HDD.out]; exact seg_b S.b a t_ R.A R.c (W := W) h (by rw [← HN.out]; exact hcc))
  clear H3
  go_upto_region 5 with fail
  refine wp_gen (P := fun W => CM w0 G p m S.wk (cliL S m R) (⟨W2.heap.size, 63, (msV (dsegM S.tg la dd) A5 (t_ - a) (R.c - a)).toList⟩ :: ks) rs W) (by exact H4.out) (fun W3 h3 => ?_)
  clear H4 b17 b18 b20 z hcut hEnd
  have z := h3.lt
  obtain ⟨g, hg⟩ : ∃ g, g = W2.heap.size := ⟨_, rfl⟩
  rw [← hg] at h3 ⊢
  clear hg
  have b18 := h3.blk.cell 18 rfl
  have f18 := h3.blk.frozen 18
  have q : Blk W3 g 63 (msV (dsegM S.tg la dd) A5 (t_ - a) (R.c - a)) := h3.k0
  have H3 := hide h3
  have zg : g < W3.heap.size := q.lt
  have hgp : g ≠ p := (h3.keep ⟨g, 63, (msV (dsegM S.tg la dd) A5 (t_ - a) (R.c - a)).toList⟩ (by simp)).1
  clear h3
  have HMt : la = true → Hid (CM w0 G p m S.wk (cliL { S with at_ := (t_ : Int) + 1 } m R) (⟨g, 63, (msV (dsegM S.tg la dd) A5 (t_ - a) (R.c - a)).toList⟩ :: ks) rs ((W3.setCell ⟨p, 18, none⟩ (.int .i64 (t_ : Int))).setCell ⟨p, 18, none⟩ (.int .i64 ((t_ : Int) + 1)))) := fun _ => hide ((H3.out.set 18 _).set 18 _)
  have HMf : la = false → Hid (CM w0 G p m S.wk (cliL { S with at_ := (t_ : Int) } m R) (⟨g, 63, (msV (dsegM S.tg la dd) A5 (t_ - a) (R.c - a)).toList⟩ :: ks) rs (W3.setCell ⟨p, 18, none⟩ (.int .i64 (t_ : Int)))) := fun _ => hide (H3.out.set 18 _)
  have hq : ∀ x : Bool, la = x → W3.cell? ⟨g, 4, none⟩ = some (.bool x) := fun x e => e ▸ q.cell 4 rfl
  obtain ⟨at2, hat⟩ : ∃ at2 : Int, at2 = if la = true then (t_ : Int) + 1 else (t_ : Int) := ⟨_, rfl⟩
  rw [← hat] at HP
  have HAT := hide hat
  clear hat H3 q
  rcases Bool.eq_false_or_eq_true la with hl | hl
  · have q4 := hq _ hl
    have HM := HMt hl
    have e2 : at2 = (t_ : Int) + 1 := by rw [HAT.out, if_pos hl]
    have E2 := hide e2
    clear e2 hq
    go_upto_region 8 with fail
    refine wp_gen (P := CM w0 G p m S.wk (cliL { S with at_ := at2 } m R) (⟨g, 63, (msV (dsegM S.tg la dd) A5 (t_ - a) (R.c - a)).toList⟩ :: ks) rs) (by have e := E2.out; rw [e]; exact HM.out) (fun W4 h4 => ?_)
    have H4 := hide h4
    clear h4 HM E2
    clear q4 b18 f18 z zg HMt HMf hl
    go_wp2_with fail
    refine (cl_wait 13 W4 H4.out rfl HW.out ⟨by omega, by omega⟩).mono ?_
    rintro e W5 ⟨rfl, h5⟩
    clear H4
    have H5 : Hid (CM w0 G p m (13 : Int) (cliL { S with at_ := at2, wk := 13 } m R) (⟨g, 63, (msV (dsegM S.tg la dd) A5 (t_ - a) (R.c - a)).toList⟩ :: ks) rs W5) := hide h5
    have q5 : Blk W5 g 63 (msV (dsegM S.tg la dd) A5 (t_ - a) (R.c - a)) := h5.k0
    have HD5 := hide (h5.alloc (.cells (msV (dsegM S.tg la dd) A5 (t_ - a) (R.c - a)) 63))
    have HB5 := hide (blk_one W5 63 (msV (dsegM S.tg la dd) A5 (t_ - a) (R.c - a)))
    have HS5 := hide (HSG.out _ (HD5.out.rows _ HB.out).1.sl)
    have zg5 := q5.lt
    unfold msV dsegM at q5 HD5 HB5 HS5
    dsimp only at q5 HD5 HB5 HS5
    obtain ⟨q5_c0, q5_c1, q5_c2, q5_c3, q5_c4, q5_c5, q5_c6, q5_c7, q5_c8, q5_c9, q5_c10, q5_c11, q5_c12, q5_c13⟩ := cel14 q5
    have q5_f := q5.frozen
    clear h5
    go_wp2_with fail
    refine (cl_send p (1536 + S.nd) [dsegM S.tg la dd] _ 1 1 _ (HD5.out.blk.cell 1 rfl) rfl (slm_one (M := dsegM S.tg la dd) HB5.out HDL.out HS5.out) (dseg_ok _ _ _) (by omega)).mono ?_
    rintro e w2 ⟨As, ns, cs, ds, rfl, hO, hb⟩
    have HF := hide (fin_cli (S := { S with at_ := at2, wk := 13 }) (R := R) (L := [dsegM S.tg la dd]) HD5.out HE.out (fun _ => HB.out) HN2.out (fun h => absurd HD.out h) ⟨As, ns, cs, ds, rfl, hO, hb⟩)
    clear hO hb
    go_wp2_with fail
    rw [HP.out, ← HDD.out]
    exact HF.out
  · have q4 := hq _ hl
    have HM := HMf hl
    have e2 : at2 = (t_ : Int) := by rw [HAT.out, if_neg (by rw [hl]; decide)]
    have E2 := hide e2
    clear e2 hq
    go_upto_region 8 with fail
    refine wp_gen (P := CM w0 G p m S.wk (cliL { S with at_ := at2 } m R) (⟨g, 63, (msV (dsegM S.tg la dd) A5 (t_ - a) (R.c - a)).toList⟩ :: ks) rs) (by have e := E2.out; rw [e]; exact HM.out) (fun W4 h4 => ?_)
    have H4 := hide h4
    clear h4 HM E2
    clear q4 b18 f18 z zg HMt HMf hl
    go_wp2_with fail
    refine (cl_wait 13 W4 H4.out rfl HW.out ⟨by omega, by omega⟩).mono ?_
    rintro e W5 ⟨rfl, h5⟩
    clear H4
    have H5 : Hid (CM w0 G p m (13 : Int) (cliL { S with at_ := at2, wk := 13 } m R) (⟨g, 63, (msV (dsegM S.tg la dd) A5 (t_ - a) (R.c - a)).toList⟩ :: ks) rs W5) := hide h5
    have q5 : Blk W5 g 63 (msV (dsegM S.tg la dd) A5 (t_ - a) (R.c - a)) := h5.k0
    have HD5 := hide (h5.alloc (.cells (msV (dsegM S.tg la dd) A5 (t_ - a) (R.c - a)) 63))
    have HB5 := hide (blk_one W5 63 (msV (dsegM S.tg la dd) A5 (t_ - a) (R.c - a)))
    have HS5 := hide (HSG.out _ (HD5.out.rows _ HB.out).1.sl)
    have zg5 := q5.lt
    unfold msV dsegM at q5 HD5 HB5 HS5
    dsimp only at q5 HD5 HB5 HS5
    obtain ⟨q5_c0, q5_c1, q5_c2, q5_c3, q5_c4, q5_c5, q5_c6, q5_c7, q5_c8, q5_c9, q5_c10, q5_c11, q5_c12, q5_c13⟩ := cel14 q5
    have q5_f := q5.frozen
    clear h5
    go_wp2_with fail
    refine (cl_send p (1536 + S.nd) [dsegM S.tg la dd] _ 1 1 _ (HD5.out.blk.cell 1 rfl) rfl (slm_one (M := dsegM S.tg la dd) HB5.out HDL.out HS5.out) (dseg_ok _ _ _) (by omega)).mono ?_
    rintro e w2 ⟨As, ns, cs, ds, rfl, hO, hb⟩
    have HF := hide (fin_cli (S := { S with at_ := at2, wk := 13 }) (R := R) (L := [dsegM S.tg la dd]) HD5.out HE.out (fun _ => HB.out) HN2.out (fun h => absurd HD.out h) ⟨As, ns, cs, ds, rfl, hO, hb⟩)
    clear hO hb
    go_wp2_with fail
    rw [HP.out, ← HDD.out]
    exact HF.out
end
end Go.Proofs.Ythdbckbpldlkeaa

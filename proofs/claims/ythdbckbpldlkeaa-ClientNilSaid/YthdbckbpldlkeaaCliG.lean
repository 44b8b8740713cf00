/- Package client: Receive of a frame that is taken (printed by wip/tools/gen_clig.py). -/
import Derived.Test.YthdbckbpldlkeaaCliF
namespace Go.Proofs.Ythdbckbpldlkeaa
set_option linter.unusedVariables false
set_option linter.unusedSimpArgs false
set_option linter.unnecessarySimpa false
open Go.RowKit Go.Maps
set_option maxRecDepth 100000
set_option maxHeartbeats 8000000
section
variable {G : Nat → Prop} {p m : Nat}
/-- what a step is asked for -/
def StepC (w : World) (G : Nat → Prop) (p m : Nat) (S : CliS) (M : Ms) : Prop :=
  ∀ (W : World) (R : CR) (ks : List KB) (rs : List RB) (A : Option Addr) (n c : Nat), CM w G p m S.wk (cliL S m R) ks rs W → EOk S R → ⟨R.A, R.n, R.c, S.b⟩ ∈ rs → R.n2 = S.data.length → ⟨A, n, c, M.data⟩ ∈ rs →
    Calls Try.prog 38 #[.pointer (some ⟨p, 0, none⟩), .agg (msV M A n c)] W (CliR w G p m (cStepS S M) (cStepL S M))
theorem CliR.shape {w : World} {S : CliS} {L : List Frm} {e : Ending} {w' : World} (h : CliR w G p m S L e w') : ∃ As ns cs, e = .returned (.slice As ns cs) := by
  obtain ⟨N, As, ns, cs, ds, h1, _⟩ := h
  exact ⟨As, ns, cs, h1⟩
theorem resM_bd (ks : List Int) (b : List UInt8) : (resM ks b).code ≤ 4294967295 := by
  unfold resM
  split
  · have h : ∀ ks, ∀ x, ofM ks b = some x → x.code ≤ 4294967295 := by
      intro ks
      induction ks with
      | nil => intro x hx; cases hx
      | cons k ks ih =>
        intro x hx
        unfold ofM at hx
        split at hx
        · injection hx with hx
          subst hx
          exact (guess_bd k b).2.1
        · exact ih x hx
    cases ho : ofM ks b with
    | none => exact Nat.zero_le _
    | some x => exact h ks x ho
  · exact Nat.zero_le _
theorem resM_kind (ks : List Int) (b : List UInt8) (h : errI ks b = 0) : (resM ks b).kind ∈ ks := by
  unfold errI at h
  unfold resM
  have h1 : ¬ b.length < 8 := by intro h1; rw [if_pos h1] at h; cases h
  rw [if_neg h1] at h
  have h2 : ¬ 8 < b.length := by intro h2; rw [if_pos h2] at h; cases h
  rw [if_neg h2] at h
  rw [if_pos (by omega)]
  have k : ∀ ks, ∀ x, ofM ks b = some x → x.kind ∈ ks := by
    intro ks
    induction ks with
    | nil => intro x hx; cases hx
    | cons k ks ih =>
      intro x hx
      unfold ofM at hx
      split at hx
      · injection hx with hx
        subst hx
        exact List.mem_cons_self
      · exact List.mem_cons_of_mem _ (ih x hx)
  cases ho : ofM ks b with
  | none => rw [ho] at h; simp at h
  | some x => exact k ks x ho
theorem cks_range (S : CliS) (b : List UInt8) (h : errI (cKs S b) b = 0) (h1 : (resM (cKs S b) b).kind ≠ 1) : 12 ≤ (resM (cKs S b) b).kind ∧ (resM (cKs S b) b).kind ≤ 21 := by
  have := resM_kind _ _ h
  generalize (resM (cKs S b) b).kind = k at this h1
  unfold cKs at this
  split at this
  · simp [segK] at this; omega
  · simp [ansK] at this; omega
theorem cl_recv_yes (S : CliS) (f : Frm) (A : Option Addr) (n c : Nat) (w : World) (hS : CV_ w G p m S) (hw : 0 ≤ S.wk ∧ S.wk ≤ 21) (hen : S.en ≤ 4294967295) (hn : n = f.data.length) (hc : n ≤ c) (hs : Sl w A (f.data.map bv)) (h0 : S.wk ≠ 0) (hid : f.id = 1408 + S.nd) (hre : f.re = false) (h8 : f.data.length = 8)
    (hst : errI (cKs S f.data) f.data = 0 → (resM (cKs S f.data) f.data).kind ≠ 1 → cFitB S (resM (cKs S f.data) f.data) = true → StepC w G p m S (resM (cKs S f.data) f.data)) :
    Calls Try.prog 16 #[.pointer (some ⟨p, 0, none⟩), .agg #[.int .i64 f.id, .bool f.re, .slice A n c]] w (CliR w G p m (cRecvS S f) (cRecvL S f)) := by
  obtain ⟨R, hC, hE, hR2⟩ := hS.cm1 h0
  have H1 : Hid (CM w G p m S.wk (cliL S m R) [⟨w.heap.size, 34, [.int .i64 f.id, .bool f.re, .slice A n c]⟩] [⟨R.A, R.n, R.c, S.b⟩] (w.alloc (.cells #[.int .i64 f.id, .bool f.re, .slice A n c] 34))) := hide (hC.new _ _ (by decide))
  have HBL := hide (below_alloc (Below.refl w.heap.size w) (.cells #[.int .i64 f.id, .bool f.re, .slice A n c] 34))
  have HE := hide hE
  have HW := hide hw
  have HR2 := hide hR2
  have HS := hide hs
  obtain ⟨id, re, data⟩ := f
  dsimp only at *
  subst hid
  subst hre
  have HN := hide hn
  have H8 := hide h8
  obtain ⟨P, hP⟩ : ∃ P, P = CliR w G p m (cRecvS S ⟨1408 + S.nd, false, data⟩) (cRecvL S ⟨1408 + S.nd, false, data⟩) := ⟨_, rfl⟩
  have hno : ¬ (S.wk = 0 ∨ (1408 + S.nd : Int) ≠ 1408 + S.nd ∨ false = true ∨ data.length ≠ 8) := by simp [h0, h8]
  have HP : Hid (∀ e W', (if errI (cKs S data) data = 0 ∧ (resM (cKs S data) data).kind = 1 then CliR w G p m (cEnd S (resM (cKs S data) data).code []) [] e W' else if errI (cKs S data) data ≠ 0 ∨ cFitB S (resM (cKs S data) data) = false then CliR w G p m (cEnd S 84148225 []) (cFailL S 84148225) e W' else CliR w G p m (cStepS S (resM (cKs S data) data)) (cStepL S (resM (cKs S data) data)) e W') → P e W') := hide (fun e W' hh => by
    rw [hP]
    unfold cRecvS cRecvL
    dsimp only
    rw [if_neg hno, if_neg hno]
    split at hh
    · rename_i hc1
      rw [if_pos hc1, if_pos hc1]
      exact hh
    · rename_i hc1
      rw [if_neg hc1, if_neg hc1]
      split at hh
      · rename_i hc2
        rw [if_pos hc2, if_pos hc2]
        exact hh
      · rename_i hc2
        rw [if_neg hc2, if_neg hc2]
        exact hh)
  rw [← hP]
  have HST := hide hst
  have HKR : Hid (errI (cKs S data) data = 0 → (resM (cKs S data) data).kind ≠ 1 → 12 ≤ (resM (cKs S data) data).kind ∧ (resM (cKs S data) data).kind ≤ 21) := hide (cks_range S data)
  have HWK : Hid (decide (S.wk ≠ 0) = true) := hide (by simp [h0])
  have h8n : n = 8 := by omega
  subst h8n
  have HC8 := hide hc
  obtain ⟨x, hx⟩ : ∃ x, x = data.headD 0 := ⟨_, rfl⟩
  have hcx : (data.map bv)[0]? = some (.int .u8 (x.toNat : Nat)) := by
    rw [hx]
    rcases data with _ | ⟨y, data⟩
    · simp at h8
    · rfl
  obtain ⟨bb, oo, rfl, hcell⟩ := hs.at_ hcx
  rw [Nat.add_zero] at hcell
  have HX := hide hx
  have HCL := hide hcell
  clear hS hC hE hR2 hst hn hP hs hw hno h0 h8 hcx hx hcell
  go_enter Try.func16, Try.ntmps16
  go_upto_region 1 with fail
  refine wp_gen (P := fun W1 => CM w G p m S.wk (cliL S m R) [⟨w.heap.size, 34, [.int .i64 (1408 + S.nd), .bool false, .slice (some ⟨bb, oo, none⟩) 8 c]⟩] [⟨R.A, R.n, R.c, S.b⟩] W1 ∧ Below w.heap.size w W1) ⟨H1.out, HBL.out⟩ (fun W1 h1 => ?_)
  clear H1 HBL
  obtain ⟨h1, hbl⟩ := h1
  obtain ⟨g, hg⟩ : ∃ g, g = w.heap.size := ⟨_, rfl⟩
  have HG := hide hg
  rw [← hg] at h1 ⊢
  clear hg
  have HBL := hide hbl
  have H1 := hide h1
  have z1 := h1.lt
  have q : Blk W1 g 34 #[.int .i64 (1408 + S.nd), .bool false, .slice (some ⟨bb, oo, none⟩) 8 c] := h1.k0
  have zg := q.lt
  have q0 : W1.cell? ⟨g, 0, none⟩ = some (.int .i64 (1408 + S.nd)) := q.cell 0 rfl
  have q1 : W1.cell? ⟨g, 1, none⟩ = some (.bool false) := q.cell 1 rfl
  have q2 : W1.cell? ⟨g, 2, none⟩ = some (.slice (some ⟨bb, oo, none⟩) 8 c) := q.cell 2 rfl
  have b0 : W1.cell? ⟨p, 0, none⟩ = some (.int .i64 (1408 + S.nd)) := h1.blk.cell 0 rfl
  clear q h1 hbl

  refine wp_region_held_drew (S := (fun w' => (∀ qA : Addr, qA.block < (W1).heap.size → w'.cell? qA = (W1).cell? qA) ∧ Below (W1).heap.size (W1) w')) (by kernel_rfl) ?hS1 (fun hHeld => ?rest1)
  case hS1 => ((try dsimp only); (((try go_split_ands); refine sn_of ?_; repeat' (first | with_reducible assumption | with_reducible exact Below.refl _ _ | with_reducible apply below_alloc | with_reducible apply below_drew1 | with_reducible apply below_drewN | (with_reducible apply below_step; with_reducible assumption) | (with_reducible apply below_sg2; (first | exact Nat.le_refl _ | (simp; done) | omega))))))
  case' rest1 => skip
  refine wpAnyH_take (i := 0) (oi := _) (v := ?v2) rfl (by kernel_rfl) (by kernel_rfl) (by kernel_rfl) (fun _ _ _ h => h) (Or.inl ⟨by rfl, ?hy2⟩) (by assumption) ?rest2
  case hy2 => ((intro w hSw; (try dsimp only at hSw); go_simp) <;> with_reducible rfl)
  case' rest2 => try simp only [List.getElem_toArray, List.getElem_cons_zero, List.getElem_cons_succ, Act.put, List.setIfInBounds_toArray, List.set_cons_zero, List.set_cons_succ]
  refine wpAnyH_ready (rs := [1]) (by kernel_rfl) (by simp) ?_
  refine AllReadyH.cons (o := _) rfl (fun K hK => ?_) AllReadyH.nil
  go_simp
  refine (cl_busy _ (H1.out.step (by repeat' (first | with_reducible assumption | with_reducible exact Below.refl _ _ | with_reducible apply below_alloc | with_reducible apply below_drew1 | with_reducible apply below_drewN | (with_reducible apply below_step; with_reducible assumption) | (with_reducible apply below_sg2; (first | exact Nat.le_refl _ | (simp; done) | omega))))) rfl).mono ?_
  rintro e W2 ⟨rfl, rfl⟩
  rw [show decide (S.wk ≠ 0) = true from HWK.out]
  refine hK.out _ _ ?hS5 (fun hHeld => ?rest5)
  case hS5 => ((try dsimp only); (((try go_split_ands); refine sn_of ?_; repeat' (first | with_reducible assumption | with_reducible exact Below.refl _ _ | with_reducible apply below_alloc | with_reducible apply below_drew1 | with_reducible apply below_drewN | (with_reducible apply below_step; with_reducible assumption) | (with_reducible apply below_sg2; (first | exact Nat.le_refl _ | (simp; done) | omega))))))
  case' rest5 => (clear hK K; try simp only [List.getElem_toArray, List.getElem_cons_zero, List.getElem_cons_succ, Act.put, List.setIfInBounds_toArray, List.set_cons_zero, List.set_cons_succ])
  refine wpAnyH_take (i := 2) (oi := _) (v := ?v6) rfl (by kernel_rfl) (by kernel_rfl) (by kernel_rfl) (fun _ _ _ h => h) (Or.inl ⟨by rfl, ?hy6⟩) (by assumption) ?rest6
  case hy6 => ((intro w hSw; (try dsimp only at hSw); go_simp) <;> with_reducible rfl)
  case' rest6 => try simp only [List.getElem_toArray, List.getElem_cons_zero, List.getElem_cons_succ, Act.put, List.setIfInBounds_toArray, List.set_cons_zero, List.set_cons_succ]
  refine wpAnyH_take (i := 3) (oi := _) (v := ?v7) rfl (by kernel_rfl) (by kernel_rfl) (by kernel_rfl) (fun _ _ _ h => h) (Or.inl ⟨by rfl, ?hy7⟩) (by assumption) ?rest7
  case hy7 => ((intro w hSw; (try dsimp only at hSw); go_simp) <;> with_reducible rfl)
  case' rest7 => try simp only [List.getElem_toArray, List.getElem_cons_zero, List.getElem_cons_succ, Act.put, List.setIfInBounds_toArray, List.set_cons_zero, List.set_cons_succ]
  refine wpAnyH_take (i := 4) (oi := _) (v := ?v8) rfl (by kernel_rfl) (by kernel_rfl) (by kernel_rfl) (fun _ _ _ h => h) (Or.inl ⟨by rfl, ?hy8⟩) (by assumption) ?rest8
  case hy8 => ((intro w hSw; (try dsimp only at hSw); go_simp) <;> with_reducible rfl)
  case' rest8 => try simp only [List.getElem_toArray, List.getElem_cons_zero, List.getElem_cons_succ, Act.put, List.setIfInBounds_toArray, List.set_cons_zero, List.set_cons_succ]
  refine wpAnyH_take (i := 5) (oi := _) (v := ?v9) rfl (by kernel_rfl) (by kernel_rfl) (by kernel_rfl) (fun _ _ _ h => h) (Or.inl ⟨by rfl, ?hy9⟩) (by assumption) ?rest9
  case hy9 => ((intro w hSw; (try dsimp only at hSw); go_simp) <;> with_reducible rfl)
  case' rest9 => try simp only [List.getElem_toArray, List.getElem_cons_zero, List.getElem_cons_succ, Act.put, List.setIfInBounds_toArray, List.set_cons_zero, List.set_cons_succ]
  refine wpAnyH_take (i := 6) (oi := _) (v := ?v10) rfl (by kernel_rfl) (by kernel_rfl) (by kernel_rfl) (fun _ _ _ h => h) (Or.inl ⟨by rfl, ?hy10⟩) (by assumption) ?rest10
  case hy10 => ((intro w hSw; (try dsimp only at hSw); go_simp) <;> with_reducible rfl)
  case' rest10 => try simp only [List.getElem_toArray, List.getElem_cons_zero, List.getElem_cons_succ, Act.put, List.setIfInBounds_toArray, List.set_cons_zero, List.set_cons_succ]
  refine wpAnyH_take (i := 7) (oi := _) (v := ?v11) rfl (by kernel_rfl) (by kernel_rfl) (by kernel_rfl) (fun _ _ _ h => h) (Or.inl ⟨by rfl, ?hy11⟩) (by assumption) ?rest11
  case hy11 => ((intro w hSw; (try dsimp only at hSw); go_simp) <;> with_reducible rfl)
  case' rest11 => try simp only [List.getElem_toArray, List.getElem_cons_zero, List.getElem_cons_succ, Act.put, List.setIfInBounds_toArray, List.set_cons_zero, List.set_cons_succ]
  refine wpAnyH_take (i := 8) (oi := _) (v := ?v12) rfl (by kernel_rfl) (by kernel_rfl) (by kernel_rfl) (fun _ _ _ h => h) (Or.inl ⟨by rfl, ?hy12⟩) (by assumption) ?rest12
  case hy12 => ((intro w hSw; (try dsimp only at hSw); go_simp) <;> with_reducible rfl)
  case' rest12 => try simp only [List.getElem_toArray, List.getElem_cons_zero, List.getElem_cons_succ, Act.put, List.setIfInBounds_toArray, List.set_cons_zero, List.set_cons_succ]
  refine wpAnyH_take (i := 9) (oi := _) (v := ?v13) rfl (by kernel_rfl) (by kernel_rfl) (by kernel_rfl) (fun _ _ _ h => h) (Or.inl ⟨by rfl, ?hy13⟩) (by assumption) ?rest13
  case hy13 => ((intro w hSw; (try dsimp only at hSw); go_simp) <;> with_reducible rfl)
  case' rest13 => try simp only [List.getElem_toArray, List.getElem_cons_zero, List.getElem_cons_succ, Act.put, List.setIfInBounds_toArray, List.set_cons_zero, List.set_cons_succ]
  refine wpAnyH_take (i := 10) (oi := _) (v := ?v14) rfl (by kernel_rfl) (by kernel_rfl) (by kernel_rfl) (fun _ _ _ h => h) (Or.inl ⟨by rfl, ?hy14⟩) (by assumption) ?rest14
  case hy14 => ((intro w hSw; (try dsimp only at hSw); go_simp) <;> with_reducible rfl)
  case' rest14 => try simp only [List.getElem_toArray, List.getElem_cons_zero, List.getElem_cons_succ, Act.put, List.setIfInBounds_toArray, List.set_cons_zero, List.set_cons_succ]
  refine wpAnyH_take (i := 11) (oi := _) (v := ?v15) rfl (by kernel_rfl) (by kernel_rfl) (by kernel_rfl) (fun _ _ _ h => h) (Or.inl ⟨by rfl, ?hy15⟩) (by assumption) ?rest15
  case hy15 => ((intro w hSw; (try dsimp only at hSw); go_simp) <;> with_reducible rfl)
  case' rest15 => try simp only [List.getElem_toArray, List.getElem_cons_zero, List.getElem_cons_succ, Act.put, List.setIfInBounds_toArray, List.set_cons_zero, List.set_cons_succ]
  refine wpAnyH_take (i := 12) (oi := _) (v := ?v16) rfl (by kernel_rfl) (by kernel_rfl) (by kernel_rfl) (fun _ _ _ h => h) (Or.inl ⟨by rfl, ?hy16⟩) (by assumption) ?rest16
  case hy16 => ((intro w hSw; (try dsimp only at hSw); go_simp) <;> with_reducible rfl)
  case' rest16 => try simp only [List.getElem_toArray, List.getElem_cons_zero, List.getElem_cons_succ, Act.put, List.setIfInBounds_toArray, List.set_cons_zero, List.set_cons_succ]
  refine wpAnyH_take (i := 13) (oi := _) (v := ?v17) rfl (by kernel_rfl) (by kernel_rfl) (by kernel_rfl) (fun _ _ _ h => h) (Or.inl ⟨by rfl, ?hy17⟩) (by assumption) ?rest17
  case hy17 => ((intro w hSw; (try dsimp only at hSw); go_simp) <;> with_reducible rfl)
  case' rest17 => try simp only [List.getElem_toArray, List.getElem_cons_zero, List.getElem_cons_succ, Act.put, List.setIfInBounds_toArray, List.set_cons_zero, List.set_cons_succ]
  refine wpAnyH_take (i := 14) (oi := _) (v := ?v18) rfl (by kernel_rfl) (by kernel_rfl) (by kernel_rfl) (fun _ _ _ h => h) (Or.inl ⟨by rfl, ?hy18⟩) (by assumption) ?rest18
  case hy18 => ((intro w hSw; (try dsimp only at hSw); go_simp) <;> with_reducible rfl)
  case' rest18 => try simp only [List.getElem_toArray, List.getElem_cons_zero, List.getElem_cons_succ, Act.put, List.setIfInBounds_toArray, List.set_cons_zero, List.set_cons_succ]
  refine wpAnyH_take (i := 15) (oi := _) (v := ?v19) rfl (by kernel_rfl) (by kernel_rfl) (by kernel_rfl) (fun _ _ _ h => h) (Or.inl ⟨by rfl, ?hy19⟩) (by assumption) ?rest19
  case hy19 => ((intro w hSw; (try dsimp only at hSw); go_simp) <;> with_reducible rfl)
  case' rest19 => try simp only [List.getElem_toArray, List.getElem_cons_zero, List.getElem_cons_succ, Act.put, List.setIfInBounds_toArray, List.set_cons_zero, List.set_cons_succ]
  refine wpAnyH_take (i := 16) (oi := _) (v := ?v20) rfl (by kernel_rfl) (by kernel_rfl) (by kernel_rfl) (fun _ _ _ h => h) (Or.inl ⟨by rfl, ?hy20⟩) (by assumption) ?rest20
  case hy20 => ((intro w hSw; (try dsimp only at hSw); go_simp) <;> with_reducible rfl)
  case' rest20 => try simp only [List.getElem_toArray, List.getElem_cons_zero, List.getElem_cons_succ, Act.put, List.setIfInBounds_toArray, List.set_cons_zero, List.set_cons_succ]
  refine wpAnyH_take (i := 17) (oi := _) (v := ?v21) rfl (by kernel_rfl) (by kernel_rfl) (by kernel_rfl) (fun _ _ _ h => h) (Or.inl ⟨by rfl, ?hy21⟩) (by assumption) ?rest21
  case hy21 => ((intro w hSw; (try dsimp only at hSw); go_simp) <;> with_reducible rfl)
  case' rest21 => try simp only [List.getElem_toArray, List.getElem_cons_zero, List.getElem_cons_succ, Act.put, List.setIfInBounds_toArray, List.set_cons_zero, List.set_cons_succ]
  refine wpAnyH_take (i := 18) (oi := _) (v := ?v22) rfl (by kernel_rfl) (by kernel_rfl) (by kernel_rfl) (fun _ _ _ h => h) (Or.inl ⟨by rfl, ?hy22⟩) (by assumption) ?rest22
  case hy22 => ((intro w hSw; (try dsimp only at hSw); go_simp) <;> with_reducible rfl)
  case' rest22 => try simp only [List.getElem_toArray, List.getElem_cons_zero, List.getElem_cons_succ, Act.put, List.setIfInBounds_toArray, List.set_cons_zero, List.set_cons_succ]
  refine wpAnyH_take (i := 19) (oi := _) (v := ?v23) rfl (by kernel_rfl) (by kernel_rfl) (by kernel_rfl) (fun _ _ _ h => h) (Or.inl ⟨by rfl, ?hy23⟩) (by assumption) ?rest23
  case hy23 => ((intro w hSw; (try dsimp only at hSw); go_simp) <;> with_reducible rfl)
  case' rest23 => try simp only [List.getElem_toArray, List.getElem_cons_zero, List.getElem_cons_succ, Act.put, List.setIfInBounds_toArray, List.set_cons_zero, List.set_cons_succ]
  refine wpAnyH_take (i := 20) (oi := _) (v := ?v24) rfl (by kernel_rfl) (by kernel_rfl) (by kernel_rfl) (fun _ _ _ h => h) (Or.inl ⟨by rfl, ?hy24⟩) (by assumption) ?rest24
  case hy24 => ((intro w hSw; (try dsimp only at hSw); go_simp) <;> with_reducible rfl)
  case' rest24 => try simp only [List.getElem_toArray, List.getElem_cons_zero, List.getElem_cons_succ, Act.put, List.setIfInBounds_toArray, List.set_cons_zero, List.set_cons_succ]
  refine wpAnyH_take (i := 21) (oi := _) (v := ?v25) rfl (by kernel_rfl) (by kernel_rfl) (by kernel_rfl) (fun _ _ _ h => h) (Or.inl ⟨by rfl, ?hy25⟩) (by assumption) ?rest25
  case hy25 => ((intro w hSw; (try dsimp only at hSw); go_simp) <;> with_reducible rfl)
  case' rest25 => try simp only [List.getElem_toArray, List.getElem_cons_zero, List.getElem_cons_succ, Act.put, List.setIfInBounds_toArray, List.set_cons_zero, List.set_cons_succ]
  refine wpAnyH_done (by kernel_rfl) ?_ _
  have hEnd := hHeld.2
  repeat (clear hHeld)
  go_upto_region 3 with fail
  refine wp_gen (P := fun W2 => CM w G p m S.wk (cliL S m R) [⟨g, 34, [.int .i64 (1408 + S.nd), .bool false, .slice (some ⟨bb, oo, none⟩) 8 c]⟩] [⟨R.A, R.n, R.c, S.b⟩] W2 ∧ Below w.heap.size w W2) ⟨H1.out.step hEnd, HBL.out.trans (hEnd.mono HBL.out.size)⟩ (fun W2 hW2 => ?_)
  clear H1 HBL q0 q1 q2 b0 z1 zg hEnd
  obtain ⟨h2, hbl⟩ := hW2
  have H2 := hide h2
  have HBL := hide hbl
  have q : Blk W2 g 34 #[.int .i64 (1408 + S.nd), .bool false, .slice (some ⟨bb, oo, none⟩) 8 c] := h2.k0
  have z2 := h2.lt
  have zg := q.lt
  have q2 : W2.cell? ⟨g, 2, none⟩ = some (.slice (some ⟨bb, oo, none⟩) 8 c) := q.cell 2 rfl
  have hxc : W2.cell? ⟨bb, oo, none⟩ = some (.int .u8 (x.toNat : Nat)) := (hbl.cell (lt_of_cell HCL.out)).trans HCL.out
  have HS2 := hide (HS.out.below hbl)
  clear q h2 hbl
  by_cases h21 : S.wk = 21
  · have dw : decide (S.wk = 21) = true := decide_eq_true h21
    have H21 := hide h21
    clear h21
    by_cases hx8 : x = 128
    · have dx : ((x.toNat : Int) != 128) = false := by rw [hx8]; rfl
      have HX8 := hide hx8
      clear hx8
      go_wp2_with fail
      refine (cl_waits 21 _ H2.out rfl HW.out ⟨by omega, by omega⟩ (by omega)).mono ?_
      rintro e W3 ⟨rfl, rfl⟩
      rw [dw]
      go_wp2_with fail
      refine (sd_answer (some ⟨bb, oo, none⟩) 8 c data _ HN.out HC8.out HS2.out).mono ?_
      rintro e w3 ⟨A3, n3, c3, rfl, hO, hb⟩
      have hks : cKs S data = ansK := by unfold cKs; rw [if_neg (fun h => h.2 (HX.out.symm.trans HX8.out))]
      rw [hks] at HP HST HKR
      have hcode := resM_bd ansK data
      obtain ⟨M, hM⟩ : ∃ M, M = resM ansK data := ⟨_, rfl⟩
      obtain ⟨er, her⟩ : ∃ er, er = errI ansK data := ⟨_, rfl⟩
      rw [← hM] at HP HST hO hcode HKR
      rw [← her] at HP HST HKR
      rw [← hM, ← her]
      have h3 := (H2.out.step hb).row (hO.mono (HBL.out.size))
      have H4 : Hid (CM w G p m S.wk (cliL S m R) (⟨w3.heap.size, 63, (msV M A3 n3 c3).toList⟩ :: [⟨g, 34, [.int .i64 (1408 + S.nd), .bool false, .slice (some ⟨bb, oo, none⟩) 8 c]⟩]) [⟨A3, n3, c3, M.data⟩, ⟨R.A, R.n, R.c, S.b⟩] (w3.alloc (.cells (msV M A3 n3 c3) 63))) := hide (h3.new _ _ (by decide))
      have q4 := blk_one w3 63 (msV M A3 n3 c3)
      have HCO := hide hcode
      clear hks hM her h3 hO hb hcode hxc q2 zg z2 H2 HS2
      have z4 := H4.out.lt
      have hz0 := w3.heap.size
      unfold msV at q4
      obtain ⟨q4_c0, q4_c1, q4_c2, q4_c3, q4_c4, q4_c5, q4_c6, q4_c7, q4_c8, q4_c9, q4_c10, q4_c11, q4_c12, q4_c13⟩ := cel14 q4
      have q4_f := q4.frozen
      have HMV := hide (show msV M A3 n3 c3 = msV M A3 n3 c3 from rfl)
      clear hz0 HMV
      by_cases he : er = 0
      · have d1 : (er == 0) = true := by simp [he]
        have d2 : (er != 0) = false := by simp [he]
        have HER := hide he
        have hrange0 := hide (HKR.out he)
        clear he HKR
        by_cases hk1 : M.kind = 1
        · have dk : (M.kind == 1) = true := by simp [hk1]
          have HK1 := hide hk1
          clear hk1
          unfold msV at H4 ⊢
          go_wp2_with fail
          refine (cl_end M.code none 0 0 [] _ H4.out rfl rfl HW.out rfl (by omega) (fun _ _ => Sl.nil _ _)).mono ?_
          rintro e W5 ⟨rfl, A5, c5, h5⟩
          have HF := hide (fin_cli0 (S := cEnd S M.code []) (R := { R with A2 := A5, n2 := 0, c2 := c5 }) h5 HE.out (fun h => absurd rfl h) rfl (fun h => absurd rfl h))
          clear h5
          go_wp2_with fail
          exact HP.out _ _ (by rw [if_pos ⟨HER.out, HK1.out⟩]; exact HF.out)
        · have dk : (M.kind == 1) = false := by simp [hk1]
          have HK1 := hide hk1
          have hrange := hrange0.out hk1
          have HFT := hide (fun W h => cl_fits (w0 := w) (G := G) (p := p) (m := m) (rs := [⟨A3, n3, c3, M.data⟩, ⟨R.A, R.n, R.c, S.b⟩]) (ks := ⟨w3.heap.size, 63, (msV M A3 n3 c3).toList⟩ :: [⟨g, 34, [.int .i64 (1408 + S.nd), .bool false, .slice (some ⟨bb, oo, none⟩) 8 c]⟩]) S R M A3 n3 c3 W h HW.out hrange)
          clear hk1 hrange
          unfold msV at H4 HFT ⊢
          go_wp2_with fail
          refine (HFT.out _ H4.out).mono ?_
          rintro e W5 ⟨rfl, hb5⟩
          have H5 := hide (H4.out.step hb5)
          have q5 : Blk W5 w3.heap.size 63 (msV M A3 n3 c3) := H5.out.k0
          have zq5 := q5.lt
          have z5 := H5.out.lt
          clear hb5 HFT H4
          clear q4_c0 q4_c1 q4_c2 q4_c3 q4_c4 q4_c5 q4_c6 q4_c7 q4_c8 q4_c9 q4_c10 q4_c11 q4_c12 q4_c13 q4_f
          unfold msV at q5
          obtain ⟨q5_c0, q5_c1, q5_c2, q5_c3, q5_c4, q5_c5, q5_c6, q5_c7, q5_c8, q5_c9, q5_c10, q5_c11, q5_c12, q5_c13⟩ := cel14 q5
          have q5_f := q5.frozen
          cases hft : cFitB S M
          · have HFI := hide hft
            clear hft q4
            go_wp2_with fail
            refine (cl_fail S R 84148225 _ H5.out HW.out HE.out (by omega)).mono ?_
            rintro e W6 hR
            obtain ⟨As, ns, cs, rfl⟩ := hR.shape
            have HR := hide hR
            clear hR
            go_wp2_with fail
            exact HP.out _ _ (by rw [if_neg (fun h => HK1.out h.2), if_pos (.inr HFI.out)]; exact HR.out)
          · have HFI := hide hft
            clear hft q4
            have HSC := hide (HST.out HER.out HK1.out HFI.out _ R _ _ A3 n3 c3 H5.out HE.out (by simp) HR2.out (by simp))
            unfold msV at HSC
            go_wp2_with fail
            refine HSC.out.mono ?_
            rintro e W6 hR
            obtain ⟨As, ns, cs, rfl⟩ := hR.shape
            have HR := hide hR
            clear hR
            go_wp2_with fail
            exact HP.out _ _ (by rw [if_neg (fun h => HK1.out h.2), if_neg (by rintro (h | h); exact h HER.out; rw [HFI.out] at h; cases h)]; exact HR.out)
      · have d1 : (er == 0) = false := by simp [he]
        have d2 : (er != 0) = true := by simp [he]
        have HER := hide he
        clear he
        unfold msV at H4 ⊢
        go_wp2_with fail
        refine (cl_fail S R 84148225 _ H4.out HW.out HE.out (by omega)).mono ?_
        rintro e W6 hR
        obtain ⟨As, ns, cs, rfl⟩ := hR.shape
        have HR := hide hR
        clear hR
        go_wp2_with fail
        exact HP.out _ _ (by rw [if_neg (fun h => HER.out h.1), if_pos (.inl HER.out)]; exact HR.out)
    · have dx : ((x.toNat : Int) != 128) = true := by have : x.toNat ≠ 128 := fun h => hx8 (UInt8.toNat_inj.1 h); simp; omega
      have HX8 := hide hx8
      clear hx8
      go_wp2_with fail
      refine (cl_waits 21 _ H2.out rfl HW.out ⟨by omega, by omega⟩ (by omega)).mono ?_
      rintro e W3 ⟨rfl, rfl⟩
      rw [dw]
      go_wp2_with fail
      refine (sd_segment (some ⟨bb, oo, none⟩) 8 c data _ HN.out HC8.out HS2.out).mono ?_
      rintro e w3 ⟨A3, n3, c3, rfl, hO, hb⟩
      have hks : cKs S data = segK := by unfold cKs; rw [if_pos ⟨H21.out, fun h => HX8.out (HX.out.trans h)⟩]
      rw [hks] at HP HST HKR
      have hcode := resM_bd segK data
      obtain ⟨M, hM⟩ : ∃ M, M = resM segK data := ⟨_, rfl⟩
      obtain ⟨er, her⟩ : ∃ er, er = errI segK data := ⟨_, rfl⟩
      rw [← hM] at HP HST hO hcode HKR
      rw [← her] at HP HST HKR
      rw [← hM, ← her]
      have h3 := (H2.out.step hb).row (hO.mono (HBL.out.size))
      have H4 : Hid (CM w G p m S.wk (cliL S m R) (⟨w3.heap.size, 63, (msV M A3 n3 c3).toList⟩ :: [⟨g, 34, [.int .i64 (1408 + S.nd), .bool false, .slice (some ⟨bb, oo, none⟩) 8 c]⟩]) [⟨A3, n3, c3, M.data⟩, ⟨R.A, R.n, R.c, S.b⟩] (w3.alloc (.cells (msV M A3 n3 c3) 63))) := hide (h3.new _ _ (by decide))
      have q4 := blk_one w3 63 (msV M A3 n3 c3)
      have HCO := hide hcode
      clear hks hM her h3 hO hb hcode hxc q2 zg z2 H2 HS2
      have z4 := H4.out.lt
      have hz0 := w3.heap.size
      unfold msV at q4
      obtain ⟨q4_c0, q4_c1, q4_c2, q4_c3, q4_c4, q4_c5, q4_c6, q4_c7, q4_c8, q4_c9, q4_c10, q4_c11, q4_c12, q4_c13⟩ := cel14 q4
      have q4_f := q4.frozen
      have HMV := hide (show msV M A3 n3 c3 = msV M A3 n3 c3 from rfl)
      clear hz0 HMV
      by_cases he : er = 0
      · have d1 : (er == 0) = true := by simp [he]
        have d2 : (er != 0) = false := by simp [he]
        have HER := hide he
        have hrange0 := hide (HKR.out he)
        clear he HKR
        by_cases hk1 : M.kind = 1
        · have dk : (M.kind == 1) = true := by simp [hk1]
          have HK1 := hide hk1
          clear hk1
          unfold msV at H4 ⊢
          go_wp2_with fail
          refine (cl_end M.code none 0 0 [] _ H4.out rfl rfl HW.out rfl (by omega) (fun _ _ => Sl.nil _ _)).mono ?_
          rintro e W5 ⟨rfl, A5, c5, h5⟩
          have HF := hide (fin_cli0 (S := cEnd S M.code []) (R := { R with A2 := A5, n2 := 0, c2 := c5 }) h5 HE.out (fun h => absurd rfl h) rfl (fun h => absurd rfl h))
          clear h5
          go_wp2_with fail
          exact HP.out _ _ (by rw [if_pos ⟨HER.out, HK1.out⟩]; exact HF.out)
        · have dk : (M.kind == 1) = false := by simp [hk1]
          have HK1 := hide hk1
          have hrange := hrange0.out hk1
          have HFT := hide (fun W h => cl_fits (w0 := w) (G := G) (p := p) (m := m) (rs := [⟨A3, n3, c3, M.data⟩, ⟨R.A, R.n, R.c, S.b⟩]) (ks := ⟨w3.heap.size, 63, (msV M A3 n3 c3).toList⟩ :: [⟨g, 34, [.int .i64 (1408 + S.nd), .bool false, .slice (some ⟨bb, oo, none⟩) 8 c]⟩]) S R M A3 n3 c3 W h HW.out hrange)
          clear hk1 hrange
          unfold msV at H4 HFT ⊢
          go_wp2_with fail
          refine (HFT.out _ H4.out).mono ?_
          rintro e W5 ⟨rfl, hb5⟩
          have H5 := hide (H4.out.step hb5)
          have q5 : Blk W5 w3.heap.size 63 (msV M A3 n3 c3) := H5.out.k0
          have zq5 := q5.lt
          have z5 := H5.out.lt
          clear hb5 HFT H4
          clear q4_c0 q4_c1 q4_c2 q4_c3 q4_c4 q4_c5 q4_c6 q4_c7 q4_c8 q4_c9 q4_c10 q4_c11 q4_c12 q4_c13 q4_f
          unfold msV at q5
          obtain ⟨q5_c0, q5_c1, q5_c2, q5_c3, q5_c4, q5_c5, q5_c6, q5_c7, q5_c8, q5_c9, q5_c10, q5_c11, q5_c12, q5_c13⟩ := cel14 q5
          have q5_f := q5.frozen
          cases hft : cFitB S M
          · have HFI := hide hft
            clear hft q4
            go_wp2_with fail
            refine (cl_fail S R 84148225 _ H5.out HW.out HE.out (by omega)).mono ?_
            rintro e W6 hR
            obtain ⟨As, ns, cs, rfl⟩ := hR.shape
            have HR := hide hR
            clear hR
            go_wp2_with fail
            exact HP.out _ _ (by rw [if_neg (fun h => HK1.out h.2), if_pos (.inr HFI.out)]; exact HR.out)
          · have HFI := hide hft
            clear hft q4
            have HSC := hide (HST.out HER.out HK1.out HFI.out _ R _ _ A3 n3 c3 H5.out HE.out (by simp) HR2.out (by simp))
            unfold msV at HSC
            go_wp2_with fail
            refine HSC.out.mono ?_
            rintro e W6 hR
            obtain ⟨As, ns, cs, rfl⟩ := hR.shape
            have HR := hide hR
            clear hR
            go_wp2_with fail
            exact HP.out _ _ (by rw [if_neg (fun h => HK1.out h.2), if_neg (by rintro (h | h); exact h HER.out; rw [HFI.out] at h; cases h)]; exact HR.out)
      · have d1 : (er == 0) = false := by simp [he]
        have d2 : (er != 0) = true := by simp [he]
        have HER := hide he
        clear he
        unfold msV at H4 ⊢
        go_wp2_with fail
        refine (cl_fail S R 84148225 _ H4.out HW.out HE.out (by omega)).mono ?_
        rintro e W6 hR
        obtain ⟨As, ns, cs, rfl⟩ := hR.shape
        have HR := hide hR
        clear hR
        go_wp2_with fail
        exact HP.out _ _ (by rw [if_neg (fun h => HER.out h.1), if_pos (.inl HER.out)]; exact HR.out)
  · have dw : decide (S.wk = 21) = false := decide_eq_false h21
    have H21 := hide h21
    clear h21
    go_wp2_with fail
    refine (cl_waits 21 _ H2.out rfl HW.out ⟨by omega, by omega⟩ (by omega)).mono ?_
    rintro e W3 ⟨rfl, rfl⟩
    rw [dw]
    go_wp2_with fail
    refine (sd_answer (some ⟨bb, oo, none⟩) 8 c data _ HN.out HC8.out HS2.out).mono ?_
    rintro e w3 ⟨A3, n3, c3, rfl, hO, hb⟩
    have hks : cKs S data = ansK := by unfold cKs; rw [if_neg (fun h => H21.out h.1)]
    rw [hks] at HP HST HKR
    have hcode := resM_bd ansK data
    obtain ⟨M, hM⟩ : ∃ M, M = resM ansK data := ⟨_, rfl⟩
    obtain ⟨er, her⟩ : ∃ er, er = errI ansK data := ⟨_, rfl⟩
    rw [← hM] at HP HST hO hcode HKR
    rw [← her] at HP HST HKR
    rw [← hM, ← her]
    have h3 := (H2.out.step hb).row (hO.mono (HBL.out.size))
    have H4 : Hid (CM w G p m S.wk (cliL S m R) (⟨w3.heap.size, 63, (msV M A3 n3 c3).toList⟩ :: [⟨g, 34, [.int .i64 (1408 + S.nd), .bool false, .slice (some ⟨bb, oo, none⟩) 8 c]⟩]) [⟨A3, n3, c3, M.data⟩, ⟨R.A, R.n, R.c, S.b⟩] (w3.alloc (.cells (msV M A3 n3 c3) 63))) := hide (h3.new _ _ (by decide))
    have q4 := blk_one w3 63 (msV M A3 n3 c3)
    have HCO := hide hcode
    clear hks hM her h3 hO hb hcode hxc q2 zg z2 H2 HS2
    have z4 := H4.out.lt
    have hz0 := w3.heap.size
    unfold msV at q4
    obtain ⟨q4_c0, q4_c1, q4_c2, q4_c3, q4_c4, q4_c5, q4_c6, q4_c7, q4_c8, q4_c9, q4_c10, q4_c11, q4_c12, q4_c13⟩ := cel14 q4
    have q4_f := q4.frozen
    have HMV := hide (show msV M A3 n3 c3 = msV M A3 n3 c3 from rfl)
    clear hz0 HMV
    by_cases he : er = 0
    · have d1 : (er == 0) = true := by simp [he]
      have d2 : (er != 0) = false := by simp [he]
      have HER := hide he
      have hrange0 := hide (HKR.out he)
      clear he HKR
      by_cases hk1 : M.kind = 1
      · have dk : (M.kind == 1) = true := by simp [hk1]
        have HK1 := hide hk1
        clear hk1
        unfold msV at H4 ⊢
        go_wp2_with fail
        refine (cl_end M.code none 0 0 [] _ H4.out rfl rfl HW.out rfl (by omega) (fun _ _ => Sl.nil _ _)).mono ?_
        rintro e W5 ⟨rfl, A5, c5, h5⟩
        have HF := hide (fin_cli0 (S := cEnd S M.code []) (R := { R with A2 := A5, n2 := 0, c2 := c5 }) h5 HE.out (fun h => absurd rfl h) rfl (fun h => absurd rfl h))
        clear h5
        go_wp2_with fail
        exact HP.out _ _ (by rw [if_pos ⟨HER.out, HK1.out⟩]; exact HF.out)
      · have dk : (M.kind == 1) = false := by simp [hk1]
        have HK1 := hide hk1
        have hrange := hrange0.out hk1
        have HFT := hide (fun W h => cl_fits (w0 := w) (G := G) (p := p) (m := m) (rs := [⟨A3, n3, c3, M.data⟩, ⟨R.A, R.n, R.c, S.b⟩]) (ks := ⟨w3.heap.size, 63, (msV M A3 n3 c3).toList⟩ :: [⟨g, 34, [.int .i64 (1408 + S.nd), .bool false, .slice (some ⟨bb, oo, none⟩) 8 c]⟩]) S R M A3 n3 c3 W h HW.out hrange)
        clear hk1 hrange
        unfold msV at H4 HFT ⊢
        go_wp2_with fail
        refine (HFT.out _ H4.out).mono ?_
        rintro e W5 ⟨rfl, hb5⟩
        have H5 := hide (H4.out.step hb5)
        have q5 : Blk W5 w3.heap.size 63 (msV M A3 n3 c3) := H5.out.k0
        have zq5 := q5.lt
        have z5 := H5.out.lt
        clear hb5 HFT H4
        clear q4_c0 q4_c1 q4_c2 q4_c3 q4_c4 q4_c5 q4_c6 q4_c7 q4_c8 q4_c9 q4_c10 q4_c11 q4_c12 q4_c13 q4_f
        unfold msV at q5
        obtain ⟨q5_c0, q5_c1, q5_c2, q5_c3, q5_c4, q5_c5, q5_c6, q5_c7, q5_c8, q5_c9, q5_c10, q5_c11, q5_c12, q5_c13⟩ := cel14 q5
        have q5_f := q5.frozen
        cases hft : cFitB S M
        · have HFI := hide hft
          clear hft q4
          go_wp2_with fail
          refine (cl_fail S R 84148225 _ H5.out HW.out HE.out (by omega)).mono ?_
          rintro e W6 hR
          obtain ⟨As, ns, cs, rfl⟩ := hR.shape
          have HR := hide hR
          clear hR
          go_wp2_with fail
          exact HP.out _ _ (by rw [if_neg (fun h => HK1.out h.2), if_pos (.inr HFI.out)]; exact HR.out)
        · have HFI := hide hft
          clear hft q4
          have HSC := hide (HST.out HER.out HK1.out HFI.out _ R _ _ A3 n3 c3 H5.out HE.out (by simp) HR2.out (by simp))
          unfold msV at HSC
          go_wp2_with fail
          refine HSC.out.mono ?_
          rintro e W6 hR
          obtain ⟨As, ns, cs, rfl⟩ := hR.shape
          have HR := hide hR
          clear hR
          go_wp2_with fail
          exact HP.out _ _ (by rw [if_neg (fun h => HK1.out h.2), if_neg (by rintro (h | h); exact h HER.out; rw [HFI.out] at h; cases h)]; exact HR.out)
    · have d1 : (er == 0) = false := by simp [he]
      have d2 : (er != 0) = true := by simp [he]
      have HER := hide he
      clear he
      unfold msV at H4 ⊢
      go_wp2_with fail
      refine (cl_fail S R 84148225 _ H4.out HW.out HE.out (by omega)).mono ?_
      rintro e W6 hR
      obtain ⟨As, ns, cs, rfl⟩ := hR.shape
      have HR := hide hR
      clear hR
      go_wp2_with fail
      exact HP.out _ _ (by rw [if_neg (fun h => HER.out h.1), if_pos (.inl HER.out)]; exact HR.out)
end
end Go.Proofs.Ythdbckbpldlkeaa

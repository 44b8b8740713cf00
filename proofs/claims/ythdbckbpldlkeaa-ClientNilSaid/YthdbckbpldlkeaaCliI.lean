/- Package client: Write. -/
import Derived.Test.YthdbckbpldlkeaaCliH
namespace Go.Proofs.Ythdbckbpldlkeaa
set_option linter.unusedVariables false
set_option linter.unusedSimpArgs false
set_option linter.unnecessarySimpa false
open Go.RowKit Go.Maps
set_option maxRecDepth 100000
set_option maxHeartbeats 8000000
section
variable {G : Nat → Prop} {p m : Nat}
theorem down_ok (ix sub : Int) (sz : Bool) (size : Nat) (d : List UInt8) (h : size ≤ 4294967295) : ∀ M ∈ [downM ix sub sz size d], MsOk M := by
  intro M hM
  simp at hM
  subst hM
  exact ⟨h, Nat.zero_le _, Nat.zero_le _⟩
theorem cl_write_short (S : CliS) (ix sub : Int) (b : List UInt8) (A : Option Addr) (n c : Nat) (w : World) (hS : CV_ w G p m S) (hw : 0 ≤ S.wk ∧ S.wk ≤ 21) (hn : n = b.length) (hq : 1 ≤ b.length ∧ b.length ≤ 4) (hb : cBegB ix sub 0 = true) (hs : ∀ W', Only (fun q => q = p ∨ q = m ∨ G q) w W' → Sl W' A (b.map bv)) :
    Calls Try.prog 10 #[.pointer (some ⟨p, 0, none⟩), .int .i64 ix, .int .i64 sub, .slice A n c, .int .i64 0] w (CliR w G p m (cWriteS S ix sub b 0) (cWriteL S ix sub b 0)) := by
  obtain ⟨R, hC, hE, hR2⟩ := hS.cm
  have HC := hide hC
  have HE := hide hE
  have HW := hide hw
  have HN := hide hn
  have HS := hide hs
  have HBG := hide hb
  have hn0 : 0 < n := by omega
  have hn1 : n ≤ 4 := by omega
  have d1 : decide ((0 : Int) < (n : Int)) = true := decide_eq_true (by omega)
  have d2 : decide ((n : Int) ≤ 4) = true := decide_eq_true (by omega)
  obtain ⟨P, hP⟩ : ∃ P, P = CliR w G p m (cWriteS S ix sub b 0) (cWriteL S ix sub b 0) := ⟨_, rfl⟩
  have HP : Hid (P = CliR w G p m { cBegS S ix sub with b := b, wk := 12, at_ := (n : Int) + 1 } (cSend S [downM ix sub true 0 b])) := hide (by
    rw [hP]
    unfold cWriteS cWriteL
    rw [if_neg (by rw [hb]; decide), if_neg (by decide), if_pos ⟨rfl, by omega, hq.2⟩, if_neg (by rw [hb]; decide), if_neg (by decide), if_pos ⟨rfl, by omega, hq.2⟩, hn])
  rw [← hP]
  clear hS hC hE hR2 hw hn hq hb hs hP
  go_enter Try.func10, Try.ntmps10
  go_wp2_with fail
  refine (cl_begin S R ix sub 0 w HC.out HW.out HBG.out).mono ?_
  rintro e W1 ⟨rfl, A', c', h1⟩
  have H1 := hide h1
  have z1 := h1.lt
  have HS1 := hide (HS.out W1 h1.only)
  clear h1 HC
  go_wp2_with (at_builtin; refine app_b _ rfl _ _ rfl W1.heap.size none 0 0 [] rfl (OwnB.nil _ _) A n c b rfl HN.out HS1.out (by omega) (Nat.le_refl _) n (by omega) ?_; intro A4 c4 w4 h3 h4 h5 h6; have H2 := hide ((H1.out.step h6).row (h3.mono H1.out.size)); have c17 := H2.out.blk.cell 17 rfl; have f17 := H2.out.blk.frozen 17; have z2 := H2.out.lt)
  have H3 : Hid (CM w G p m 0 (cliL { cBegS S ix sub with b := b } m { R with A := A4, n := n, c := c4, A2 := A', n2 := 0, c2 := c' }) [] [⟨A4, n, c4, b⟩] (w4.setCell ⟨p, 17, none⟩ (.slice A4 n c4))) := hide (H2.out.set 17 _)
  clear H2 c17 f17 h3 h4 h5 h6 H1 HS1
  refine (cl_of { cBegS S ix sub with b := b } { R with A := A4, n := n, c := c4, A2 := A', n2 := 0, c2 := c' } 2 _ H3.out).mono ?_
  rintro e w5 ⟨rfl, hb5⟩
  have H6 : Hid (CM w G p m 0 (cliL { cBegS S ix sub with b := b } m { R with A := A4, n := n, c := c4, A2 := A', n2 := 0, c2 := c' }) [⟨w5.heap.size, 63, (msV (placeM 2 ix sub) none 0 0).toList⟩] [⟨A4, n, c4, b⟩] (w5.alloc (.cells (msV (placeM 2 ix sub) none 0 0) 63))) := hide ((H3.out.step hb5).new _ _ (by decide))
  have hw5 : w.heap.size ≤ w5.heap.size := (H3.out.step hb5).only.size
  clear hb5 H3
  unfold msV placeM at H6
  unfold msV placeM cBegS
  dsimp only at H6 ⊢
  go_wp2_with fail
  refine (cl_wait 12 _ H6.out rfl ⟨by omega, by omega⟩ ⟨by omega, by omega⟩).mono ?_
  rintro e W7 ⟨rfl, h7⟩
  obtain ⟨g, hg⟩ : ∃ g, g = w5.heap.size := ⟨_, rfl⟩
  rw [← hg] at h7 hw5 ⊢
  have H7 : Hid (CM w G p m 12 (cliL { cBegS S ix sub with b := b, wk := 12 } m { R with A := A4, n := n, c := c4, A2 := A', n2 := 0, c2 := c' }) [⟨g, 63, (msV (placeM 2 ix sub) none 0 0).toList⟩] [⟨A4, n, c4, b⟩] W7) := hide h7
  have z7 := h7.lt
  have c18 := H7.out.blk.cell 18 rfl
  have f18 := H7.out.blk.frozen 18
  clear h7 H6 hg
  go_upto_region 17 with fail
  refine wp_gen (P := CM w G p m 12 (cliL { cBegS S ix sub with b := b, wk := 12, at_ := (n : Int) + 1 } m { R with A := A4, n := n, c := c4, A2 := A', n2 := 0, c2 := c' }) [⟨g, 63, (msV (placeM 2 ix sub) none 0 0).toList⟩] [⟨A4, n, c4, b⟩]) (by exact H7.out.set 18 _) (fun W8 h8 => ?_)
  clear H7 z7 c18 f18
  have H8 := hide h8
  have z8 := h8.lt
  have q8 : Blk W8 g 63 (msV (placeM 2 ix sub) none 0 0) := h8.k0
  have hgp : g ≠ p := (h8.keep ⟨g, 63, (msV (placeM 2 ix sub) none 0 0).toList⟩ (by simp)).1
  have zg := q8.lt
  have c17 : W8.cell? ⟨p, 17, none⟩ = some (.slice A4 n c4) := h8.blk.cell 17 rfl
  have q6 : W8.cell? ⟨g, 6, none⟩ = some (.bool false) := q8.cell 6 rfl
  have q9 : W8.cell? ⟨g, 9, none⟩ = some (.slice none 0 0) := q8.cell 9 rfl
  have fq := q8.frozen
  have hgw : ¬ g < w.heap.size := by omega
  have H9a := hide ((h8.put (x := ⟨g, 63, (msV (placeM 2 ix sub) none 0 0).toList⟩) hgw (by simp) 6 (.bool true)).drew)
  have H9 := hide (((h8.put (x := ⟨g, 63, (msV (placeM 2 ix sub) none 0 0).toList⟩) hgw (by simp) 6 (.bool true)).put (x := ⟨g, 63, (msV (placeM 2 ix sub) none 0 0).toList.set 6 (.bool true)⟩) hgw (by simp) 9 (.slice A4 n c4)).drew)
  clear h8 q8
  refine wp_region_held_drew (S := (fun w' => w'.cell? ⟨p, 17, none⟩ = some (.slice A4 n c4) ∧ True)) (by kernel_rfl) ?hS1 (fun hHeld => ?rest1)
  case hS1 => ((try dsimp only); (exact ⟨c17, trivial⟩))
  case' rest1 => skip
  refine wpAnyH_take (i := 0) (oi := _) (v := ?v2) rfl (by kernel_rfl) (by kernel_rfl) (by kernel_rfl) (fun _ _ _ h => h) (Or.inl ⟨by rfl, ?hy2⟩) (by assumption) ?rest2
  case hy2 => ((intro w hSw; (try dsimp only at hSw); go_simp) <;> with_reducible rfl)
  case' rest2 => try simp only [List.getElem_toArray, List.getElem_cons_zero, List.getElem_cons_succ, Act.put, List.setIfInBounds_toArray, List.set_cons_zero, List.set_cons_succ]
  refine wpAnyH_take (i := 1) (oi := _) (v := ?v3) rfl (by kernel_rfl) (by kernel_rfl) (by kernel_rfl) (fun _ _ _ h => h) (Or.inl ⟨by rfl, ?hy3⟩) (by assumption) ?rest3
  case hy3 => ((intro w hSw; (try dsimp only at hSw); go_simp) <;> with_reducible rfl)
  case' rest3 => try simp only [List.getElem_toArray, List.getElem_cons_zero, List.getElem_cons_succ, Act.put, List.setIfInBounds_toArray, List.set_cons_zero, List.set_cons_succ]
  refine wpAnyH_take (i := 2) (oi := _) (v := ?v4) rfl (by kernel_rfl) (by kernel_rfl) (by kernel_rfl) (fun _ _ _ h => h) (Or.inl ⟨by rfl, ?hy4⟩) (by assumption) ?rest4
  case hy4 => ((intro w hSw; (try dsimp only at hSw); go_simp) <;> with_reducible rfl)
  case' rest4 => try simp only [List.getElem_toArray, List.getElem_cons_zero, List.getElem_cons_succ, Act.put, List.setIfInBounds_toArray, List.set_cons_zero, List.set_cons_succ]
  refine wpAnyH_take (i := 3) (oi := _) (v := ?v5) rfl (by kernel_rfl) (by kernel_rfl) (by kernel_rfl) (fun _ _ _ h => h) (Or.inl ⟨by rfl, ?hy5⟩) (by assumption) ?rest5
  case hy5 => ((intro w hSw; (try dsimp only at hSw); go_simp) <;> with_reducible rfl)
  case' rest5 => try simp only [List.getElem_toArray, List.getElem_cons_zero, List.getElem_cons_succ, Act.put, List.setIfInBounds_toArray, List.set_cons_zero, List.set_cons_succ]
  refine wpAnyH_take (i := 4) (oi := _) (v := ?v6) rfl (by kernel_rfl) (by kernel_rfl) (by kernel_rfl) (fun _ _ _ h => h) (Or.inl ⟨by rfl, ?hy6⟩) (by assumption) ?rest6
  case hy6 => ((intro w hSw; (try dsimp only at hSw); go_simp) <;> with_reducible rfl)
  case' rest6 => try simp only [List.getElem_toArray, List.getElem_cons_zero, List.getElem_cons_succ, Act.put, List.setIfInBounds_toArray, List.set_cons_zero, List.set_cons_succ]
  refine wpAnyH_ready (rs := [5]) (by kernel_rfl) (by simp) ?_
  refine AllReadyH.cons (o := _) rfl (fun K hK => ?_) AllReadyH.nil
  go_simp
  refine hK.out _ _ ?hS9 (fun hHeld => ?rest9)
  case hS9 => ((try dsimp only); (exact ⟨H9a.out.blk.cell 17 rfl, trivial⟩))
  case' rest9 => (clear hK K; try simp only [List.getElem_toArray, List.getElem_cons_zero, List.getElem_cons_succ, Act.put, List.setIfInBounds_toArray, List.set_cons_zero, List.set_cons_succ])
  refine wpAnyH_take (i := 6) (oi := _) (v := ?v10) rfl (by kernel_rfl) (by kernel_rfl) (by kernel_rfl) (fun _ _ _ h => h) (Or.inl ⟨by rfl, ?hy10⟩) (by assumption) ?rest10
  case hy10 => ((intro w hSw; (try dsimp only at hSw); go_simp) <;> with_reducible rfl)
  case' rest10 => try simp only [List.getElem_toArray, List.getElem_cons_zero, List.getElem_cons_succ, Act.put, List.setIfInBounds_toArray, List.set_cons_zero, List.set_cons_succ]
  refine wpAnyH_ready (rs := [7]) (by kernel_rfl) (by simp) ?_
  refine AllReadyH.cons (o := _) rfl (fun K hK => ?_) AllReadyH.nil
  go_simp
  refine hK.out _ _ ?hS13 (fun hHeld => ?rest13)
  case hS13 => ((try dsimp only); (exact ⟨H9.out.blk.cell 17 rfl, trivial⟩))
  case' rest13 => (clear hK K; try simp only [List.getElem_toArray, List.getElem_cons_zero, List.getElem_cons_succ, Act.put, List.setIfInBounds_toArray, List.set_cons_zero, List.set_cons_succ])
  refine wpAnyH_done (by kernel_rfl) ?_ _
  have hEnd := hHeld.2
  repeat (clear hHeld)
  clear hEnd H9a
  go_upto_region 18 with fail
  refine wp_gen (P := CM w G p m 12 (cliL { cBegS S ix sub with b := b, wk := 12, at_ := (n : Int) + 1 } m { R with A := A4, n := n, c := c4, A2 := A', n2 := 0, c2 := c' }) [⟨g, 63, (msV (downM ix sub true 0 b) A4 n c4).toList⟩] [⟨A4, n, c4, b⟩]) (by exact H9.out) (fun WA hA => ?_)
  clear H9 H8 z8 zg c17 q6 q9 fq
  have qa : Blk WA g 63 (msV (downM ix sub true 0 b) A4 n c4) := hA.k0
  have za := hA.lt
  have zga := qa.lt
  have HDA := hide (hA.alloc (.cells (msV (downM ix sub true 0 b) A4 n c4) 63))
  have HBA := hide (blk_one WA 63 (msV (downM ix sub true 0 b) A4 n c4))
  have HSA := hide (HDA.out.r0.sl)
  unfold msV downM at qa HDA HBA HSA
  dsimp only at qa HDA HBA HSA
  obtain ⟨qa_c0, qa_c1, qa_c2, qa_c3, qa_c4, qa_c5, qa_c6, qa_c7, qa_c8, qa_c9, qa_c10, qa_c11, qa_c12, qa_c13⟩ := cel14 qa
  have qa_f := qa.frozen
  clear hA
  go_wp2_with fail
  refine (cl_send p (1536 + S.nd) [downM ix sub true 0 b] _ 1 1 _ (HDA.out.blk.cell 1 rfl) rfl (slm_one (M := downM ix sub true 0 b) HBA.out HN.out HSA.out) (down_ok _ _ _ _ _ (by omega)) (by omega)).mono ?_
  rintro e w2 ⟨As, ns, cs, ds, rfl, hO, hb⟩
  have HF := hide (fin_cli (S := { cBegS S ix sub with b := b, wk := 12, at_ := (n : Int) + 1 }) (R := { R with A := A4, n := n, c := c4, A2 := A', n2 := 0, c2 := c' }) (L := [downM ix sub true 0 b]) HDA.out HE.out (fun _ => by simp) rfl (fun h => absurd rfl h) ⟨As, ns, cs, ds, rfl, hO, hb⟩)
  clear hO hb
  go_wp2_with fail
  rw [HP.out]
  exact HF.out
end
end Go.Proofs.Ythdbckbpldlkeaa

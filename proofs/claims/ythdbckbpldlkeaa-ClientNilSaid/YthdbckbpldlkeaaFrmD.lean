/- Package frame: a frame of an SDO server or its client as text (printed by wip/tools/gen_frmd.py). -/
import Derived.Test.YthdbckbpldlkeaaFrmC
namespace Go.Proofs.Ythdbckbpldlkeaa
set_option linter.unusedVariables false
set_option linter.unusedSimpArgs false
set_option linter.unnecessarySimpa false
open Go.RowKit
set_option maxRecDepth 100000
set_option maxHeartbeats 4000000
def strL (l : List UInt8) : ByteArray := ⟨l.toArray⟩
theorem str_size (l : List UInt8) : (strL l).size = l.length := by simp [strL, ByteArray.size]
theorem str_app (a b : List UInt8) : strL a ++ strL b = strL (a ++ b) := by
  apply ByteArray.ext
  simp [strL, ByteArray.data_append]
theorem str_nl (l : List UInt8) : (⟨#[]⟩ : ByteArray) ++ (strL l ++ ⟨#[10]⟩) = strL (l ++ [10]) := by
  rw [show (⟨#[10]⟩ : ByteArray) = strL [10] from rfl, str_app, show (⟨#[]⟩ : ByteArray) = strL [] from rfl, str_app]
  rfl
theorem frm_show6 (A : Option Addr) (n c : Nat) (data : List UInt8) (w : World) (hn : n = data.length) (h8 : n ≤ 8) (hs : Sl w A (data.map bv)) :
    Calls Try.prog 49 #[.agg #[.int .i64 1541, .bool false, .slice A n c]] w fun e w' => e = .returned (.tuple #[.string (strL (54 :: 48 :: 53 :: 35 :: hexL data)), .int .i64 0]) ∧ Below w.heap.size w w' := by
  have q := blk_one w 34 #[.int .i64 1541, .bool false, .slice A n c]
  have HB := hide (below_alloc (Below.refl w.heap.size w) (.cells #[.int .i64 1541, .bool false, .slice A n c] 34))
  have HQ := hide q
  have HS := hide hs
  have HN := hide hn
  clear hs hn
  obtain ⟨q_c0, q_c1, q_c2⟩ := cel3 q
  have q_f := q.frozen
  go_enter Try.func49, Try.ntmps49
  go_wp2_with fail
  refine (frm_check 1541 A n c _ ⟨by omega, by omega⟩ h8).mono ?_
  rintro e w1 ⟨rfl, hb1⟩
  have HQ1 := hide (HQ.out.below hb1 HQ.out.lt)
  have HB1 := hide (below_step hb1 HB.out)
  clear q_c0 q_c1 q_c2 q_f
  have q1 := HQ1.out
  obtain ⟨q1_c0, q1_c1, q1_c2⟩ := cel3 q1
  have q1_f := q1.frozen
  have HSB := hide (Blk.new w1 5 #[.int .u8 6, .int .u8 5])
  clear hb1 q HQ
  go_wp2_with fail
  refine (oct_hex (some ⟨w1.heap.size, 0, none⟩) 2 2 [6, 5] _ rfl (by omega) HSB.out.sl).mono ?_
  rintro e w2 ⟨rfl, hb2⟩
  rw [show (⟨(hexL [6, 5]).toArray⟩ : ByteArray) = ⟨#[48, 54, 48, 53]⟩ by decide]
  have hb2' := below_step hb2 (below_alloc (Below.refl _ w1) (.cells #[.int .u8 6, .int .u8 5] 5))
  have q2 := HQ1.out.below hb2' HQ1.out.lt
  have HB2 := hide (below_step hb2' HB1.out)
  clear q1_c0 q1_c1 q1_c2 q1_f
  obtain ⟨q2_c0, q2_c1, q2_c2⟩ := cel3 q2
  have q2_f := q2.frozen
  have zq := q2.lt
  have HS2 := hide (HS.out.below HB2.out)
  clear hb2 hb2' q1 HSB HB1 HQ1
  go_upto_region 7 with fail
  obtain ⟨hx, hhx⟩ : ∃ hx, hx = strL (hexL data) := ⟨_, rfl⟩
  have hxs : hx.size = 2 * n := by rw [hhx, str_size, hexL_len, ← HN.out]
  have HHX := hide hhx
  have hcat : ¬ (9223372036854775807 < 4 + 2 * n) := by omega
  clear hhx
  refine wp_region_held_drew (S := (fun w' => (∀ qA : Addr, qA.block < (w2).heap.size → w'.cell? qA = (w2).cell? qA) ∧ Below (w2).heap.size (w2) w')) (by kernel_rfl) ?hS1 (fun hHeld => ?rest1)
  case hS1 => ((try dsimp only); (((try go_split_ands); refine sn_of ?_; repeat' (first | with_reducible assumption | with_reducible exact Below.refl _ _ | with_reducible apply below_alloc | with_reducible apply below_drew1 | with_reducible apply below_drewN | (with_reducible apply below_step; with_reducible assumption) | (with_reducible apply below_sg2; (first | exact Nat.le_refl _ | (simp; done) | omega))))))
  case' rest1 => skip
  refine wpAnyH_take (i := 0) (oi := _) (v := ?v2) rfl (by kernel_rfl) (by kernel_rfl) (by kernel_rfl) (fun _ _ _ h => h) (Or.inl ⟨by rfl, ?hy2⟩) (by assumption) ?rest2
  case hy2 => ((intro w hSw; (try dsimp only at hSw); go_simp) <;> with_reducible rfl)
  case' rest2 => try simp only [List.getElem_toArray, List.getElem_cons_zero, List.getElem_cons_succ, Act.put, List.setIfInBounds_toArray, List.set_cons_zero, List.set_cons_succ]
  refine wpAnyH_take (i := 1) (oi := _) (v := ?v3) rfl (by kernel_rfl) (by kernel_rfl) (by kernel_rfl) (fun _ _ _ h => h) (Or.inl ⟨by rfl, ?hy3⟩) (by assumption) ?rest3
  case hy3 => ((intro w hSw; (try dsimp only at hSw); go_simp) <;> with_reducible rfl)
  case' rest3 => try simp only [List.getElem_toArray, List.getElem_cons_zero, List.getElem_cons_succ, Act.put, List.setIfInBounds_toArray, List.set_cons_zero, List.set_cons_succ]
  refine wpAnyH_take (i := 2) (oi := _) (v := ?v4) rfl (by kernel_rfl) (by kernel_rfl) (by kernel_rfl) (fun _ _ _ h => h) (Or.inl ⟨by rfl, ?hy4⟩) (by assumption) ?rest4
  case hy4 => ((intro w hSw; (try dsimp only at hSw); go_simp) <;> with_reducible rfl)
  case' rest4 => try simp only [List.getElem_toArray, List.getElem_cons_zero, List.getElem_cons_succ, Act.put, List.setIfInBounds_toArray, List.set_cons_zero, List.set_cons_succ]
  refine wpAnyH_take (i := 3) (oi := _) (v := ?v5) rfl (by kernel_rfl) (by kernel_rfl) (by kernel_rfl) (fun _ _ _ h => h) (Or.inl ⟨by rfl, ?hy5⟩) (by assumption) ?rest5
  case hy5 => ((intro w hSw; (try dsimp only at hSw); go_simp) <;> with_reducible rfl)
  case' rest5 => try simp only [List.getElem_toArray, List.getElem_cons_zero, List.getElem_cons_succ, Act.put, List.setIfInBounds_toArray, List.set_cons_zero, List.set_cons_succ]
  refine wpAnyH_take (i := 4) (oi := _) (v := ?v6) rfl (by kernel_rfl) (by kernel_rfl) (by kernel_rfl) (fun _ _ _ h => h) (Or.inl ⟨by rfl, ?hy6⟩) (by assumption) ?rest6
  case hy6 => ((intro w hSw; (try dsimp only at hSw); go_simp) <;> with_reducible rfl)
  case' rest6 => try simp only [List.getElem_toArray, List.getElem_cons_zero, List.getElem_cons_succ, Act.put, List.setIfInBounds_toArray, List.set_cons_zero, List.set_cons_succ]
  refine wpAnyH_ready (rs := [5]) (by kernel_rfl) (by simp) ?_
  refine AllReadyH.cons (o := _) rfl (fun K hK => ?_) AllReadyH.nil
  go_simp
  refine (oct_hex A n c data _ HN.out (by omega) (HS2.out.below (by repeat' (first | with_reducible assumption | with_reducible exact Below.refl _ _ | with_reducible apply below_alloc | with_reducible apply below_drew1 | with_reducible apply below_drewN | (with_reducible apply below_step; with_reducible assumption) | (with_reducible apply below_sg2; (first | exact Nat.le_refl _ | (simp; done) | omega)))))).mono ?_
  rw [show (⟨(hexL data).toArray⟩ : ByteArray) = hx from HHX.out.symm]
  rintro e w3 ⟨rfl, hb3⟩
  refine hK.out _ _ ?hS9 (fun hHeld => ?rest9)
  case hS9 => ((try dsimp only); (((try go_split_ands); refine sn_of ?_; repeat' (first | with_reducible assumption | with_reducible exact Below.refl _ _ | with_reducible apply below_alloc | with_reducible apply below_drew1 | with_reducible apply below_drewN | (with_reducible apply below_step; with_reducible assumption) | (with_reducible apply below_sg2; (first | exact Nat.le_refl _ | (simp; done) | omega))))))
  case' rest9 => (clear hK K; try simp only [List.getElem_toArray, List.getElem_cons_zero, List.getElem_cons_succ, Act.put, List.setIfInBounds_toArray, List.set_cons_zero, List.set_cons_succ])
  refine wpAnyH_take (i := 6) (oi := _) (v := ?v10) rfl (by kernel_rfl) (by kernel_rfl) (by kernel_rfl) (fun _ _ _ h => h) (Or.inl ⟨by rfl, ?hy10⟩) (by assumption) ?rest10
  case hy10 => ((intro w hSw; (try dsimp only at hSw); go_simp) <;> with_reducible rfl)
  case' rest10 => try simp only [List.getElem_toArray, List.getElem_cons_zero, List.getElem_cons_succ, Act.put, List.setIfInBounds_toArray, List.set_cons_zero, List.set_cons_succ]
  refine wpAnyH_take (i := 7) (oi := _) (v := ?v11) rfl (by kernel_rfl) (by kernel_rfl) (by kernel_rfl) (fun _ _ _ h => h) (Or.inl ⟨by rfl, ?hy11⟩) (by assumption) ?rest11
  case hy11 => ((intro w hSw; (try dsimp only at hSw); go_simp) <;> with_reducible rfl)
  case' rest11 => try simp only [List.getElem_toArray, List.getElem_cons_zero, List.getElem_cons_succ, Act.put, List.setIfInBounds_toArray, List.set_cons_zero, List.set_cons_succ]
  refine wpAnyH_take (i := 8) (oi := _) (v := ?v12) rfl (by kernel_rfl) (by kernel_rfl) (by kernel_rfl) (fun _ _ _ h => h) (Or.inl ⟨by rfl, ?hy12⟩) (by assumption) ?rest12
  case hy12 => ((intro w hSw; (try dsimp only at hSw); go_simp) <;> with_reducible rfl)
  case' rest12 => try simp only [List.getElem_toArray, List.getElem_cons_zero, List.getElem_cons_succ, Act.put, List.setIfInBounds_toArray, List.set_cons_zero, List.set_cons_succ]
  refine wpAnyH_done (by kernel_rfl) ?_ _
  have hEnd := hHeld.2
  repeat (clear hHeld)
  go_wp2_with fail
  go_ret2
  refine ⟨?_, below_step hEnd HB2.out⟩
  have e : (⟨#[48, 54, 48, 53]⟩ : ByteArray).extract 1 4 ++ ⟨#[35]⟩ = strL [54, 48, 53, 35] := by decide
  have e2 : strL (54 :: 48 :: 53 :: 35 :: hexL data) = strL [54, 48, 53, 35] ++ strL (hexL data) := by rw [str_app]; rfl
  show Ending.returned (.tuple #[.string ((⟨#[48, 54, 48, 53]⟩ : ByteArray).extract 1 4 ++ ⟨#[35]⟩ ++ hx), .int .i64 0]) = _
  rw [e2, e, HHX.out]
theorem frm_text6 (g c : Nat) (A : Option Addr) (n cc : Nat) (data : List UInt8) (w : World) (hB : Sl w (some ⟨g, 0, none⟩) [.int .i64 1541, .bool false, .slice A n cc]) (hn : n = data.length) (h8 : n ≤ 8) (hs : Sl w A (data.map bv)) :
    Calls Try.prog 23 #[.slice (some ⟨g, 0, none⟩) 1 c] w fun e w' => e = .returned (.tuple #[.string (strL (54 :: 48 :: 53 :: 35 :: (hexL data ++ [10]))), .int .i64 0]) ∧ Below w.heap.size w w' := by
  have c0 : w.cell? ⟨g, 0, none⟩ = some (.int .i64 1541) := by obtain ⟨b, o, hA, hc⟩ := hB.at_ (j := 0) rfl; injection hA with hA; injection hA with h1 h2; subst h1; subst h2; exact hc
  have c1 : w.cell? ⟨g, 1, none⟩ = some (.bool false) := by obtain ⟨b, o, hA, hc⟩ := hB.at_ (j := 1) rfl; injection hA with hA; injection hA with h1 h2; subst h1; subst h2; exact hc
  have c2 : w.cell? ⟨g, 2, none⟩ = some (.slice A n cc) := by obtain ⟨b, o, hA, hc⟩ := hB.at_ (j := 2) rfl; injection hA with hA; injection hA with h1 h2; subst h1; subst h2; exact hc
  have zg : g < w.heap.size := lt_of_cell c0
  have HB := hide (below_alloc (Below.refl w.heap.size w) (.cells #[.int .i64 1541, .bool false, .slice A n cc] 34))
  have q := blk_one w 34 #[.int .i64 1541, .bool false, .slice A n cc]
  have HS := hide (hs.alloc (.cells #[.int .i64 1541, .bool false, .slice A n cc] 34))
  have HN := hide hn
  clear hB hs hn
  go_enter Try.func23, Try.ntmps23
  go_wp2_with fail
  refine wp_loop_rounds 2 ?_
  rw [rounds_succ]
  obtain ⟨q_c0, q_c1, q_c2⟩ := cel3 q
  have q_f := q.frozen
  go_wp2_with fail
  refine (frm_show6 A n cc data _ HN.out h8 HS.out).mono ?_
  rintro e w2 ⟨rfl, hb2⟩
  have HB2 := hide (below_step hb2 HB.out)
  obtain ⟨sx, hsx⟩ : ∃ sx, sx = strL (54 :: 48 :: 53 :: 35 :: hexL data) := ⟨_, rfl⟩
  have hxs : sx.size = 4 + 2 * n := by rw [hsx, str_size]; simp only [List.length_cons, hexL_len, ← HN.out]; omega
  have HSX := hide hsx
  have hcat : ¬ (9223372036854775807 < 4 + 2 * n + 1) := by omega
  rw [← hsx]
  clear hb2 hsx
  go_wp2_with fail
  rw [rounds_succ]
  go_wp2_with fail
  go_ret2
  refine ⟨?_, HB2.out⟩
  show Ending.returned (.tuple #[.string (⟨#[]⟩ ++ (sx ++ ⟨#[10]⟩)), .int .i64 0]) = _
  rw [HSX.out, str_nl]
  rfl
end Go.Proofs.Ythdbckbpldlkeaa

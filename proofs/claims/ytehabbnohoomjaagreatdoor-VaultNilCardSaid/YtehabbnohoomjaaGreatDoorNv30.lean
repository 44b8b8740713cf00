/- Package vault: the end of keep. -/
import Derived.Test.YtehabbnohoomjaaGreatDoorNv08
import Derived.Test.YtehabbnohoomjaaGreatDoorNv29
namespace Go.Proofs.YtehabbnohoomjaaGreatDoor
section
set_option linter.unusedVariables false
set_option linter.unusedSimpArgs false
set_option linter.unnecessarySimpa false
open Go.RowKit Go.Extern.Stop Go.Stop Go.Extern
set_option maxRecDepth 20000
set_option maxHeartbeats 8000000

def vauC (x0 xs : Value) (odd off : Bool) : Array Value := #[x0, xs, .bool odd, .bool off]
def EndR (pv : Nat) (x0 xs xl : Value) (odd off : Bool) (er : Int) (w : World) (e : Ending) (w' : World) : Prop :=
  e = .returned (.int .u32 (codeV er : Nat)) ∧ Blk w' pv 90 (vauC x0 (if er = 0 then xl else xs) (if er = 0 then false else odd) (off || decide (er = 7))) ∧ Only (fun g => g = pv) w w'
theorem va_end (a : Nat → Addr) (M pv Pl Pv : Nat) (x0 xs : Value) (odd off : Bool) (As : Option Addr) (ns cs : Nat) (er : Int) (u : Value) (w : World) (hG : GV w a M) (hM : M ≤ w.heap.size) (hMv : M ≤ pv) (hu : CauV w a er u)
    (hV : Blk w pv 90 (vauC x0 xs odd off)) (hl : Blk w Pl 27 #[.slice As ns cs]) (hv : Blk w Pv 34 #[.pointer (some ⟨pv, 0, none⟩)]) :
    Calls Tryz.prog 89 #[.agg #[u], .pointer (some ⟨Pl, 0, none⟩), .pointer (some ⟨Pv, 0, none⟩)] w (EndR pv x0 xs (.slice As ns cs) odd off er w) := by
  have q0 := blk_one w 145 #[u]
  have hb0 := below_alloc (Below.refl w.heap.size w) (.cells #[u] 145)
  obtain ⟨W0, hW0⟩ : ∃ W, W = w.alloc (.cells #[u] 145) := ⟨_, rfl⟩
  obtain ⟨P, hP⟩ : ∃ P, P = w.heap.size := ⟨_, rfl⟩
  rw [← hW0] at q0 hb0
  rw [← hP] at q0
  have HQ := hide q0
  have HB0 := hide hb0
  have HW0 := hide hW0
  have HP := hide hP
  have HU := hide hu
  have HU0 := hide (hu.below hb0)
  have HG := hide hG
  have HM := hide hM
  have HMV := hide hMv
  have HV := hide hV
  have HL := hide hl
  have HPV := hide hv
  have hne : pv ≠ P := by have := hV.lt; rw [hP]; omega
  obtain ⟨R0, hR0⟩ : ∃ R0, R0 = EndR pv x0 xs (.slice As ns cs) odd off er w := ⟨_, rfl⟩
  rw [← hR0]
  have HR := hide hR0
  clear q0 hb0 hW0 hP hu hG hM hMv hV hl hv hR0
  rcases HU.out.shape with ⟨h0, rfl⟩ | ⟨h0, tt, x, rfl⟩
  · subst h0
    go_enter Tryz.func89, Tryz.ntmps89
    go_wp2_with fail
    rw [← HW0.out, ← HP.out]
    have x0' := HQ.out.cell 0 (u := .nilIface) rfl
    go_wp2_with fail
    refine (fa_Depth0 _).mono ?_
    rintro e w1 ⟨rfl, hb1⟩
    have HB1 := hide (below_step hb1 HB0.out)
    have v1 := HV.out.below HB1.out HV.out.lt
    have l1 := HL.out.below HB1.out HL.out.lt
    have p1 := HPV.out.below HB1.out HPV.out.lt
    have lc := l1.cell 0 (u := .slice As ns cs) rfl
    have pc := p1.cell 0 (u := .pointer (some ⟨pv, 0, none⟩)) rfl
    unfold vauC at v1
    obtain ⟨v1_c0, v1_c1, v1_c2, v1_c3⟩ := cel4 v1
    have v1_f := v1.frozen
    go_wp2_with fail
    have HN1 : Hid (Pl ≠ pv) := hide (blk_tne v1 l1 (by decide))
    have HN2 : Hid (Pv ≠ pv) := hide (blk_tne v1 p1 (by decide))
    have L1 := hide l1
    have P1 := hide p1
    refine wp_region_held_drew (S := (fun w' => w'.cell? ⟨Pl, 0, none⟩ = some (.slice As ns cs) ∧ w'.cell? ⟨Pv, 0, none⟩ = some (.pointer (some ⟨pv, 0, none⟩)))) (by kernel_rfl) ?hS1 (fun hHeld => ?rest1)
    case hS1 => ((try dsimp only); (exact ⟨lc, pc⟩))
    case' rest1 => skip
    refine wpAnyH_take (i := 0) (oi := _) (v := ?v2) rfl (by kernel_rfl) (by kernel_rfl) (by kernel_rfl) (fun _ _ _ h => h) (Or.inl ⟨by rfl, ?hy2⟩) (by assumption) ?rest2
    case hy2 => ((intro w hSw; (try dsimp only at hSw); go_simp) <;> with_reducible rfl)
    case' rest2 => try simp only [List.getElem_toArray, List.getElem_cons_zero, List.getElem_cons_succ, Act.put, List.setIfInBounds_toArray, List.set_cons_zero, List.set_cons_succ]
    refine wpAnyH_take (i := 1) (oi := _) (v := ?v3) rfl (by kernel_rfl) (by kernel_rfl) (by kernel_rfl) (fun _ _ _ h => h) (Or.inl ⟨by rfl, ?hy3⟩) (by assumption) ?rest3
    case hy3 => ((intro w hSw; (try dsimp only at hSw); go_simp) <;> with_reducible rfl)
    case' rest3 => try simp only [List.getElem_toArray, List.getElem_cons_zero, List.getElem_cons_succ, Act.put, List.setIfInBounds_toArray, List.set_cons_zero, List.set_cons_succ]
    refine wpAnyH_take (i := 2) (oi := _) (v := ?v4) rfl (by kernel_rfl) (by kernel_rfl) (by kernel_rfl) (fun _ _ _ h => h) (Or.inl ⟨by rfl, ?hy4⟩) (by assumption) ?rest4
    case hy4 => ((intro w hSw; (try dsimp only at hSw); go_simp) <;> with_reducible rfl)
    case' rest4 => try simp only [List.getElem_toArray, List.getElem_cons_zero, List.getElem_cons_succ, Act.put, List.setIfInBounds_toArray, List.set_cons_zero, List.set_cons_succ]
    refine wpAnyH_take (i := 3) (oi := _) (v := ?v5) rfl (by kernel_rfl) (by kernel_rfl) (by kernel_rfl) (fun _ _ _ h => h) (Or.inl ⟨by rfl, ?hy5⟩) (by assumption) ?rest5
    case hy5 => ((intro w hSw; (try dsimp only at hSw); go_simp) <;> with_reducible rfl)
    case' rest5 => try simp only [List.getElem_toArray, List.getElem_cons_zero, List.getElem_cons_succ, Act.put, List.setIfInBounds_toArray, List.set_cons_zero, List.set_cons_succ]
    refine wpAnyH_take (i := 4) (oi := _) (v := ?v6) rfl (by kernel_rfl) (by kernel_rfl) (by kernel_rfl) (fun _ _ _ h => h) (Or.inl ⟨by rfl, ?hy6⟩) (by assumption) ?rest6
    case hy6 => ((intro w hSw; (try dsimp only at hSw); go_simp) <;> with_reducible rfl)
    case' rest6 => try simp only [List.getElem_toArray, List.getElem_cons_zero, List.getElem_cons_succ, Act.put, List.setIfInBounds_toArray, List.set_cons_zero, List.set_cons_succ]
    refine wpAnyH_ready (rs := [5]) (by kernel_rfl) (by simp) ?_
    refine AllReadyH.cons (o := _) rfl (fun K hK => ?_) AllReadyH.nil
    go_simp
    refine hK.out _ _ ?hS9 (fun hHeld => ?rest9)
    case hS9 => ((try dsimp only); (exact ⟨(L1.out.far (p := ⟨pv, 1, none⟩) HN1.out _).cell 0 rfl, (P1.out.far (p := ⟨pv, 1, none⟩) HN2.out _).cell 0 rfl⟩))
    case' rest9 => (clear hK K; try simp only [List.getElem_toArray, List.getElem_cons_zero, List.getElem_cons_succ, Act.put, List.setIfInBounds_toArray, List.set_cons_zero, List.set_cons_succ])
    refine wpAnyH_take (i := 6) (oi := _) (v := ?v10) rfl (by kernel_rfl) (by kernel_rfl) (by kernel_rfl) (fun _ _ _ h => h) (Or.inl ⟨by rfl, ?hy10⟩) (by assumption) ?rest10
    case hy10 => ((intro w hSw; (try dsimp only at hSw); go_simp) <;> with_reducible rfl)
    case' rest10 => try simp only [List.getElem_toArray, List.getElem_cons_zero, List.getElem_cons_succ, Act.put, List.setIfInBounds_toArray, List.set_cons_zero, List.set_cons_succ]
    refine wpAnyH_take (i := 7) (oi := _) (v := ?v11) rfl (by kernel_rfl) (by kernel_rfl) (by kernel_rfl) (fun _ _ _ h => h) (Or.inl ⟨by rfl, ?hy11⟩) (by assumption) ?rest11
    case hy11 => ((intro w hSw; (try dsimp only at hSw); go_simp) <;> with_reducible rfl)
    case' rest11 => try simp only [List.getElem_toArray, List.getElem_cons_zero, List.getElem_cons_succ, Act.put, List.setIfInBounds_toArray, List.set_cons_zero, List.set_cons_succ]
    refine wpAnyH_ready (rs := [8]) (by kernel_rfl) (by simp) ?_
    refine AllReadyH.cons (o := _) rfl (fun K hK => ?_) AllReadyH.nil
    go_simp
    refine hK.out _ _ ?hS14 (fun hHeld => ?rest14)
    case hS14 => ((try dsimp only); (exact ⟨((L1.out.far (p := ⟨pv, 1, none⟩) HN1.out _).far (p := ⟨pv, 2, none⟩) HN1.out _).cell 0 rfl, ((P1.out.far (p := ⟨pv, 1, none⟩) HN2.out _).far (p := ⟨pv, 2, none⟩) HN2.out _).cell 0 rfl⟩))
    case' rest14 => (clear hK K; try simp only [List.getElem_toArray, List.getElem_cons_zero, List.getElem_cons_succ, Act.put, List.setIfInBounds_toArray, List.set_cons_zero, List.set_cons_succ])
    refine wpAnyH_done (by kernel_rfl) ?_ _
    have hEnd := hHeld.2
    repeat (clear hHeld)
    have hW1 : Only (fun k => k = pv) w ((w1.setCell ⟨pv, 1, none⟩ (.slice As ns cs)).setCell ⟨pv, 2, none⟩ (.bool false)).drew := (Only.set (fun k => k = pv) (Only.set (fun k => k = pv) (Only.of_below HB1.out) (p := pv) (i := 1) rfl _) (p := pv) (i := 2) rfl _).drew
    have HBw := hide hW1
    have HVb : Hid (Blk ((w1.setCell ⟨pv, 1, none⟩ (.slice As ns cs)).setCell ⟨pv, 2, none⟩ (.bool false)).drew pv 90 (vauC x0 (.slice As ns cs) false off)) := hide ((v1.set_ 1 (.slice As ns cs)).set_ 2 (.bool false))
    have HPb : Hid (Blk ((w1.setCell ⟨pv, 1, none⟩ (.slice As ns cs)).setCell ⟨pv, 2, none⟩ (.bool false)).drew Pv 34 #[.pointer (some ⟨pv, 0, none⟩)]) := hide ((P1.out.far (p := ⟨pv, 1, none⟩) HN2.out _).far (p := ⟨pv, 2, none⟩) HN2.out _)
    have HQb : Hid (Blk ((w1.setCell ⟨pv, 1, none⟩ (.slice As ns cs)).setCell ⟨pv, 2, none⟩ (.bool false)).drew P 145 #[.nilIface]) := hide (((HQ.out.below hb1 HQ.out.lt).far (p := ⟨pv, 1, none⟩) (by exact Ne.symm hne) _).far (p := ⟨pv, 2, none⟩) (by exact Ne.symm hne) _)
    have HNV : Hid (Pv ≠ pv ∧ P ≠ pv) := hide ⟨HN2.out, Ne.symm hne⟩
    obtain ⟨Wb, hWb⟩ : ∃ W, W = ((w1.setCell ⟨pv, 1, none⟩ (.slice As ns cs)).setCell ⟨pv, 2, none⟩ (.bool false)).drew := ⟨_, rfl⟩
    rw [← hWb] at HBw HVb HPb HQb ⊢
    clear hW1 hWb v1 v1_c0 v1_c1 v1_c2 v1_c3 v1_f l1 p1 lc pc L1 P1 HN1 HN2 HB1 hb1 x0' HU HU0
    cases off
    · skip
      have v2 := HVb.out
      unfold vauC at v2
      obtain ⟨v2_c0, v2_c1, v2_c2, v2_c3⟩ := cel4 v2
      have v2_f := v2.frozen
      have pc := HPb.out.cell 0 (u := .pointer (some ⟨pv, 0, none⟩)) rfl
      have xq := HQb.out.cell 0 (u := .nilIface) rfl
      go_wp2_with fail
      refine wp_region_held_drew (S := (fun w' => w'.cell? ⟨Pv, 0, none⟩ = some (.pointer (some ⟨pv, 0, none⟩)) ∧ w'.cell? ⟨pv, 3, none⟩ = some (.bool false) ∧ w'.cell? ⟨P, 0, none⟩ = some (.nilIface))) (by kernel_rfl) ?hS16 (fun hHeld => ?rest16)
      case hS16 => ((try dsimp only); (exact ⟨pc, v2_c3, xq⟩))
      case' rest16 => skip
      refine wpAnyH_take (i := 0) (oi := _) (v := ?v17) rfl (by kernel_rfl) (by kernel_rfl) (by kernel_rfl) (fun _ _ _ h => h) (Or.inl ⟨by rfl, ?hy17⟩) (by assumption) ?rest17
      case hy17 => ((intro w hSw; (try dsimp only at hSw); go_simp) <;> with_reducible rfl)
      case' rest17 => try simp only [List.getElem_toArray, List.getElem_cons_zero, List.getElem_cons_succ, Act.put, List.setIfInBounds_toArray, List.set_cons_zero, List.set_cons_succ]
      refine wpAnyH_take (i := 1) (oi := _) (v := ?v18) rfl (by kernel_rfl) (by kernel_rfl) (by kernel_rfl) (fun _ _ _ h => h) (Or.inl ⟨by rfl, ?hy18⟩) (by assumption) ?rest18
      case hy18 => ((intro w hSw; (try dsimp only at hSw); go_simp) <;> with_reducible rfl)
      case' rest18 => try simp only [List.getElem_toArray, List.getElem_cons_zero, List.getElem_cons_succ, Act.put, List.setIfInBounds_toArray, List.set_cons_zero, List.set_cons_succ]
      refine wpAnyH_take (i := 2) (oi := _) (v := ?v19) rfl (by kernel_rfl) (by kernel_rfl) (by kernel_rfl) (fun _ _ _ h => h) (Or.inl ⟨by rfl, ?hy19⟩) (by assumption) ?rest19
      case hy19 => ((intro w hSw; (try dsimp only at hSw); go_simp) <;> with_reducible rfl)
      case' rest19 => try simp only [List.getElem_toArray, List.getElem_cons_zero, List.getElem_cons_succ, Act.put, List.setIfInBounds_toArray, List.set_cons_zero, List.set_cons_succ]
      refine wpAnyH_take (i := 3) (oi := _) (v := ?v20) rfl (by kernel_rfl) (by kernel_rfl) (by kernel_rfl) (fun _ _ _ h => h) (Or.inl ⟨by rfl, ?hy20⟩) (by assumption) ?rest20
      case hy20 => ((intro w hSw; (try dsimp only at hSw); go_simp) <;> with_reducible rfl)
      case' rest20 => try simp only [List.getElem_toArray, List.getElem_cons_zero, List.getElem_cons_succ, Act.put, List.setIfInBounds_toArray, List.set_cons_zero, List.set_cons_succ]
      refine wpAnyH_take (i := 4) (oi := _) (v := ?v21) rfl (by kernel_rfl) (by kernel_rfl) (by kernel_rfl) (fun _ _ _ h => h) (Or.inl ⟨by rfl, ?hy21⟩) (by assumption) ?rest21
      case hy21 => ((intro w hSw; (try dsimp only at hSw); go_simp) <;> with_reducible rfl)
      case' rest21 => try simp only [List.getElem_toArray, List.getElem_cons_zero, List.getElem_cons_succ, Act.put, List.setIfInBounds_toArray, List.set_cons_zero, List.set_cons_succ]
      refine wpAnyH_take (i := 5) (oi := _) (v := ?v22) rfl (by kernel_rfl) (by kernel_rfl) (by kernel_rfl) (fun _ _ _ h => h) (Or.inl ⟨by rfl, ?hy22⟩) (by assumption) ?rest22
      case hy22 => ((intro w hSw; (try dsimp only at hSw); go_simp) <;> with_reducible rfl)
      case' rest22 => try simp only [List.getElem_toArray, List.getElem_cons_zero, List.getElem_cons_succ, Act.put, List.setIfInBounds_toArray, List.set_cons_zero, List.set_cons_succ]
      refine wpAnyH_take (i := 6) (oi := _) (v := ?v23) rfl (by kernel_rfl) (by kernel_rfl) (by kernel_rfl) (fun _ _ _ h => h) (Or.inl ⟨by rfl, ?hy23⟩) (by assumption) ?rest23
      case hy23 => ((intro w hSw; (try dsimp only at hSw); go_simp) <;> with_reducible rfl)
      case' rest23 => try simp only [List.getElem_toArray, List.getElem_cons_zero, List.getElem_cons_succ, Act.put, List.setIfInBounds_toArray, List.set_cons_zero, List.set_cons_succ]
      refine wpAnyH_ready (rs := [7]) (by kernel_rfl) (by simp) ?_
      refine AllReadyH.cons (o := _) rfl (fun K hK => ?_) AllReadyH.nil
      go_simp
      have HSY := fa_Says0 offT Wb.drew
      rw [show bs offT = (⟨#[116, 104, 101, 32, 112, 111, 119, 101, 114, 32, 105, 115, 32, 111, 102, 102]⟩ : ByteArray) from rfl] at HSY
      refine HSY.mono ?_
      clear HSY
      rintro e wc ⟨rfl, hbs⟩
      have hbs' : Below Wb.heap.size Wb wc := ⟨hbs.os, hbs.tape, hbs.output, hbs.size, hbs.block⟩
      have HBS := hide hbs'
      try dsimp only
      refine hK.out _ _ ?hS26 (fun hHeld => ?rest26)
      case hS26 => ((try dsimp only); (exact ⟨(HBS.out.cell (lt_of_cell pc)).trans pc, (HBS.out.cell (lt_of_cell v2_c3)).trans v2_c3, (HBS.out.cell (lt_of_cell xq)).trans xq⟩))
      case' rest26 => (clear hK K; try simp only [List.getElem_toArray, List.getElem_cons_zero, List.getElem_cons_succ, Act.put, List.setIfInBounds_toArray, List.set_cons_zero, List.set_cons_succ])
      clear hbs hbs'
      refine wpAnyH_take (i := 8) (oi := _) (v := ?v27) rfl (by kernel_rfl) (by kernel_rfl) (by kernel_rfl) (fun _ _ _ h => h) (Or.inl ⟨by rfl, ?hy27⟩) (by assumption) ?rest27
      case hy27 => ((intro w hSw; (try dsimp only at hSw); go_simp) <;> with_reducible rfl)
      case' rest27 => try simp only [List.getElem_toArray, List.getElem_cons_zero, List.getElem_cons_succ, Act.put, List.setIfInBounds_toArray, List.set_cons_zero, List.set_cons_succ]
      refine wpAnyH_take (i := 9) (oi := _) (v := ?v28) rfl (by kernel_rfl) (by kernel_rfl) (by kernel_rfl) (fun _ _ _ h => h) (Or.inl ⟨by rfl, ?hy28⟩) (by assumption) ?rest28
      case hy28 => ((intro w hSw; (try dsimp only at hSw); go_simp) <;> with_reducible rfl)
      case' rest28 => try simp only [List.getElem_toArray, List.getElem_cons_zero, List.getElem_cons_succ, Act.put, List.setIfInBounds_toArray, List.set_cons_zero, List.set_cons_succ]
      refine wpAnyH_take (i := 10) (oi := _) (v := ?v29) rfl (by kernel_rfl) (by kernel_rfl) (by kernel_rfl) (fun _ _ _ h => h) (Or.inl ⟨by rfl, ?hy29⟩) (by assumption) ?rest29
      case hy29 => ((intro w hSw; (try dsimp only at hSw); go_simp) <;> with_reducible rfl)
      case' rest29 => try simp only [List.getElem_toArray, List.getElem_cons_zero, List.getElem_cons_succ, Act.put, List.setIfInBounds_toArray, List.set_cons_zero, List.set_cons_succ]
      have VC := hide (show Blk wc pv 90 (vauC x0 (.slice As ns cs) false false) from HVb.out.below HBS.out HVb.out.lt)
      have PC := hide (show Blk wc Pv 34 #[.pointer (some ⟨pv, 0, none⟩)] from HPb.out.below HBS.out HPb.out.lt)
      have QC := hide (show Blk wc P 145 #[.nilIface] from HQb.out.below HBS.out HQb.out.lt)
      have fz9 := VC.out.frozen
      refine wpAnyH_ready (rs := [11]) (by kernel_rfl) (by simp) ?_
      refine AllReadyH.cons (o := _) rfl (fun K hK => ?_) AllReadyH.nil
      go_simp
      refine hK.out _ _ ?hS32 (fun hHeld => ?rest32)
      case hS32 => ((try dsimp only); (exact ⟨(PC.out.far (p := ⟨pv, 3, none⟩) HNV.out.1 _).cell 0 rfl, (VC.out.set_ 3 _).cell 3 rfl, (QC.out.far (p := ⟨pv, 3, none⟩) HNV.out.2 _).cell 0 rfl⟩))
      case' rest32 => (clear hK K; try simp only [List.getElem_toArray, List.getElem_cons_zero, List.getElem_cons_succ, Act.put, List.setIfInBounds_toArray, List.set_cons_zero, List.set_cons_succ])
      clear v2 xq pc fz9
      refine wpAnyH_done (by kernel_rfl) ?_ _
      have hEnd := hHeld.2
      repeat (clear hHeld)
      have oc : Only (fun k => k = pv) w (wc.setCell ⟨pv, 3, none⟩ (.bool false)) := Only.set (fun k => k = pv) (HBw.out.step HBS.out) (p := pv) (i := 3) rfl _
      have HOC := hide oc
      have HGC := hide (HG.out.only oc (fun k hk => by rw [hk]; exact HMV.out))
      have VD := hide (show Blk (wc.setCell ⟨pv, 3, none⟩ (.bool false)) pv 90 _ from VC.out.set_ 3 (.bool false))
      have QD := hide (show Blk (wc.setCell ⟨pv, 3, none⟩ (.bool false)) P 145 _ from QC.out.far (p := ⟨pv, 3, none⟩) HNV.out.2 (.bool false))
      obtain ⟨We, hWe⟩ : ∃ W, W = (wc.setCell ⟨pv, 3, none⟩ (.bool false)) := ⟨_, rfl⟩
      rw [← hWe] at HOC HGC VD QD ⊢
      clear oc hWe VC PC QC HVb HPb HQb HBw
      have xq := QD.out.cell 0 (u := .nilIface) rfl
      go_wp2_with fail
      refine (fa_Code0 _).mono ?_
      rintro e wz ⟨rfl, hbz⟩
      go_wp2_with fail
      rw [HR.out]
      refine ⟨rfl, ?_, HOC.out.step hbz⟩
      have h := VD.out.below hbz VD.out.lt
      exact h
    · skip
      have v2 := HVb.out
      unfold vauC at v2
      obtain ⟨v2_c0, v2_c1, v2_c2, v2_c3⟩ := cel4 v2
      have v2_f := v2.frozen
      have pc := HPb.out.cell 0 (u := .pointer (some ⟨pv, 0, none⟩)) rfl
      have xq := HQb.out.cell 0 (u := .nilIface) rfl
      go_wp2_with fail
      refine wp_region_held_drew (S := (fun w' => w'.cell? ⟨Pv, 0, none⟩ = some (.pointer (some ⟨pv, 0, none⟩)) ∧ w'.cell? ⟨pv, 3, none⟩ = some (.bool true) ∧ w'.cell? ⟨P, 0, none⟩ = some (.nilIface))) (by kernel_rfl) ?hS34 (fun hHeld => ?rest34)
      case hS34 => ((try dsimp only); (exact ⟨pc, v2_c3, xq⟩))
      case' rest34 => skip
      refine wpAnyH_take (i := 0) (oi := _) (v := ?v35) rfl (by kernel_rfl) (by kernel_rfl) (by kernel_rfl) (fun _ _ _ h => h) (Or.inl ⟨by rfl, ?hy35⟩) (by assumption) ?rest35
      case hy35 => ((intro w hSw; (try dsimp only at hSw); go_simp) <;> with_reducible rfl)
      case' rest35 => try simp only [List.getElem_toArray, List.getElem_cons_zero, List.getElem_cons_succ, Act.put, List.setIfInBounds_toArray, List.set_cons_zero, List.set_cons_succ]
      refine wpAnyH_take (i := 1) (oi := _) (v := ?v36) rfl (by kernel_rfl) (by kernel_rfl) (by kernel_rfl) (fun _ _ _ h => h) (Or.inl ⟨by rfl, ?hy36⟩) (by assumption) ?rest36
      case hy36 => ((intro w hSw; (try dsimp only at hSw); go_simp) <;> with_reducible rfl)
      case' rest36 => try simp only [List.getElem_toArray, List.getElem_cons_zero, List.getElem_cons_succ, Act.put, List.setIfInBounds_toArray, List.set_cons_zero, List.set_cons_succ]
      refine wpAnyH_take (i := 2) (oi := _) (v := ?v37) rfl (by kernel_rfl) (by kernel_rfl) (by kernel_rfl) (fun _ _ _ h => h) (Or.inl ⟨by rfl, ?hy37⟩) (by assumption) ?rest37
      case hy37 => ((intro w hSw; (try dsimp only at hSw); go_simp) <;> with_reducible rfl)
      case' rest37 => try simp only [List.getElem_toArray, List.getElem_cons_zero, List.getElem_cons_succ, Act.put, List.setIfInBounds_toArray, List.set_cons_zero, List.set_cons_succ]
      refine wpAnyH_take (i := 3) (oi := _) (v := ?v38) rfl (by kernel_rfl) (by kernel_rfl) (by kernel_rfl) (fun _ _ _ h => h) (Or.inl ⟨by rfl, ?hy38⟩) (by assumption) ?rest38
      case hy38 => ((intro w hSw; (try dsimp only at hSw); go_simp) <;> with_reducible rfl)
      case' rest38 => try simp only [List.getElem_toArray, List.getElem_cons_zero, List.getElem_cons_succ, Act.put, List.setIfInBounds_toArray, List.set_cons_zero, List.set_cons_succ]
      refine wpAnyH_take (i := 4) (oi := _) (v := ?v39) rfl (by kernel_rfl) (by kernel_rfl) (by kernel_rfl) (fun _ _ _ h => h) (Or.inl ⟨by rfl, ?hy39⟩) (by assumption) ?rest39
      case hy39 => ((intro w hSw; (try dsimp only at hSw); go_simp) <;> with_reducible rfl)
      case' rest39 => try simp only [List.getElem_toArray, List.getElem_cons_zero, List.getElem_cons_succ, Act.put, List.setIfInBounds_toArray, List.set_cons_zero, List.set_cons_succ]
      refine wpAnyH_take (i := 5) (oi := _) (v := ?v40) rfl (by kernel_rfl) (by kernel_rfl) (by kernel_rfl) (fun _ _ _ h => h) (Or.inl ⟨by rfl, ?hy40⟩) (by assumption) ?rest40
      case hy40 => ((intro w hSw; (try dsimp only at hSw); go_simp) <;> with_reducible rfl)
      case' rest40 => try simp only [List.getElem_toArray, List.getElem_cons_zero, List.getElem_cons_succ, Act.put, List.setIfInBounds_toArray, List.set_cons_zero, List.set_cons_succ]
      refine wpAnyH_take (i := 6) (oi := _) (v := undef) rfl (by kernel_rfl) (by kernel_rfl) (by kernel_rfl) (fun _ _ _ h => h) (Or.inr ⟨by rfl, rfl⟩) (by assumption) ?rest41
      case' rest41 => try simp only [List.getElem_toArray, List.getElem_cons_zero, List.getElem_cons_succ, Act.put, List.setIfInBounds_toArray, List.set_cons_zero, List.set_cons_succ]
      refine wpAnyH_take (i := 7) (oi := _) (v := undef) rfl (by kernel_rfl) (by kernel_rfl) (by kernel_rfl) (fun _ _ _ h => h) (Or.inr ⟨by rfl, rfl⟩) (by assumption) ?rest42
      case' rest42 => try simp only [List.getElem_toArray, List.getElem_cons_zero, List.getElem_cons_succ, Act.put, List.setIfInBounds_toArray, List.set_cons_zero, List.set_cons_succ]
      refine wpAnyH_take (i := 8) (oi := _) (v := ?v43) rfl (by kernel_rfl) (by kernel_rfl) (by kernel_rfl) (fun _ _ _ h => h) (Or.inl ⟨by rfl, ?hy43⟩) (by assumption) ?rest43
      case hy43 => ((intro w hSw; (try dsimp only at hSw); go_simp) <;> with_reducible rfl)
      case' rest43 => try simp only [List.getElem_toArray, List.getElem_cons_zero, List.getElem_cons_succ, Act.put, List.setIfInBounds_toArray, List.set_cons_zero, List.set_cons_succ]
      refine wpAnyH_take (i := 9) (oi := _) (v := ?v44) rfl (by kernel_rfl) (by kernel_rfl) (by kernel_rfl) (fun _ _ _ h => h) (Or.inl ⟨by rfl, ?hy44⟩) (by assumption) ?rest44
      case hy44 => ((intro w hSw; (try dsimp only at hSw); go_simp) <;> with_reducible rfl)
      case' rest44 => try simp only [List.getElem_toArray, List.getElem_cons_zero, List.getElem_cons_succ, Act.put, List.setIfInBounds_toArray, List.set_cons_zero, List.set_cons_succ]
      refine wpAnyH_take (i := 10) (oi := _) (v := ?v45) rfl (by kernel_rfl) (by kernel_rfl) (by kernel_rfl) (fun _ _ _ h => h) (Or.inl ⟨by rfl, ?hy45⟩) (by assumption) ?rest45
      case hy45 => ((intro w hSw; (try dsimp only at hSw); go_simp) <;> with_reducible rfl)
      case' rest45 => try simp only [List.getElem_toArray, List.getElem_cons_zero, List.getElem_cons_succ, Act.put, List.setIfInBounds_toArray, List.set_cons_zero, List.set_cons_succ]
      have VC := hide (show Blk Wb.drew pv 90 (vauC x0 (.slice As ns cs) false true) from HVb.out.below (below_drew1 (Below.refl Wb.heap.size Wb)) HVb.out.lt)
      have PC := hide (show Blk Wb.drew Pv 34 #[.pointer (some ⟨pv, 0, none⟩)] from HPb.out.below (below_drew1 (Below.refl Wb.heap.size Wb)) HPb.out.lt)
      have QC := hide (show Blk Wb.drew P 145 #[.nilIface] from HQb.out.below (below_drew1 (Below.refl Wb.heap.size Wb)) HQb.out.lt)
      have fz9 := VC.out.frozen
      refine wpAnyH_ready (rs := [11]) (by kernel_rfl) (by simp) ?_
      refine AllReadyH.cons (o := _) rfl (fun K hK => ?_) AllReadyH.nil
      go_simp
      refine hK.out _ _ ?hS48 (fun hHeld => ?rest48)
      case hS48 => ((try dsimp only); (exact ⟨(PC.out.far (p := ⟨pv, 3, none⟩) HNV.out.1 _).cell 0 rfl, (VC.out.set_ 3 _).cell 3 rfl, (QC.out.far (p := ⟨pv, 3, none⟩) HNV.out.2 _).cell 0 rfl⟩))
      case' rest48 => (clear hK K; try simp only [List.getElem_toArray, List.getElem_cons_zero, List.getElem_cons_succ, Act.put, List.setIfInBounds_toArray, List.set_cons_zero, List.set_cons_succ])
      clear v2 xq pc fz9
      refine wpAnyH_done (by kernel_rfl) ?_ _
      have hEnd := hHeld.2
      repeat (clear hHeld)
      have oc : Only (fun k => k = pv) w (Wb.setCell ⟨pv, 3, none⟩ (.bool true)).drew := (Only.set (fun k => k = pv) HBw.out (p := pv) (i := 3) rfl _).drew
      have HOC := hide oc
      have HGC := hide (HG.out.only oc (fun k hk => by rw [hk]; exact HMV.out))
      have VD := hide (show Blk (Wb.setCell ⟨pv, 3, none⟩ (.bool true)).drew pv 90 _ from VC.out.set_ 3 (.bool true))
      have QD := hide (show Blk (Wb.setCell ⟨pv, 3, none⟩ (.bool true)).drew P 145 _ from QC.out.far (p := ⟨pv, 3, none⟩) HNV.out.2 (.bool true))
      obtain ⟨We, hWe⟩ : ∃ W, W = (Wb.setCell ⟨pv, 3, none⟩ (.bool true)).drew := ⟨_, rfl⟩
      rw [← hWe] at HOC HGC VD QD ⊢
      clear oc hWe VC PC QC HVb HPb HQb HBw
      have xq := QD.out.cell 0 (u := .nilIface) rfl
      go_wp2_with fail
      refine (fa_Code0 _).mono ?_
      rintro e wz ⟨rfl, hbz⟩
      go_wp2_with fail
      rw [HR.out]
      refine ⟨rfl, ?_, HOC.out.step hbz⟩
      have h := VD.out.below hbz VD.out.lt
      exact h
  · have HNZ := hide h0
    have HC0 : Hid (Ch W0 a (endV er) [codeV er] (.iface tt x)) := hide (by
      rcases HU0.out with ⟨h, _⟩ | ⟨_, h⟩
      · exact absurd h h0
      · exact h)
    have HIS : Hid (isT (endV er) offT = decide (er = 7)) := hide (by
      unfold endV
      by_cases h7 : er = 7
      · rw [if_pos h7, h7]; decide
      · rw [if_neg h7]
        by_cases h8 : er = 10 ∨ er = 6
        · rw [if_pos h8]; simp [isT, h7]; decide
        · rw [if_neg h8]; simp [isT, h7])
    have HDP := hide (fa_Depth a M (endV er) [codeV er] (.iface tt x) _ (HG.out.below HB0.out) HC0.out (Nat.le_trans HM.out HB0.out.size) (by simp))
    rw [show (([codeV er].length : Nat) : Int) = 1 from rfl] at HDP
    have x0' := HQ.out.cell 0 (u := .iface tt x) rfl
    clear h0 HU HU0
    go_enter Tryz.func89, Tryz.ntmps89
    go_wp2_with fail
    rw [← HW0.out, ← HP.out]
    go_wp2_with fail
    refine HDP.out.mono ?_
    rintro e Wb ⟨rfl, hb1⟩
    have HB1 := hide (below_step hb1 HB0.out)
    have HBw := hide (Only.of_below (F := fun k => k = pv) HB1.out)
    have HVb := hide (HV.out.below HB1.out HV.out.lt)
    have HPb := hide (HPV.out.below HB1.out HPV.out.lt)
    have HQb := hide (HQ.out.below hb1 HQ.out.lt)
    have HCb := hide (HC0.out.below hb1)
    have HNV : Hid (Pv ≠ pv ∧ P ≠ pv) := hide ⟨blk_tne HVb.out HPb.out (by decide), Ne.symm hne⟩
    clear hb1 x0' HC0 HDP HB1
    cases off
    · skip
      have v2 := HVb.out
      unfold vauC at v2
      obtain ⟨v2_c0, v2_c1, v2_c2, v2_c3⟩ := cel4 v2
      have v2_f := v2.frozen
      have pc := HPb.out.cell 0 (u := .pointer (some ⟨pv, 0, none⟩)) rfl
      have xq := HQb.out.cell 0 (u := .iface tt x) rfl
      go_wp2_with fail
      refine wp_region_T (fun w' => w'.cell? ⟨Pv, 0, none⟩ = some (.pointer (some ⟨pv, 0, none⟩)) ∧ w'.cell? ⟨pv, 3, none⟩ = some (.bool false) ∧ w'.cell? ⟨P, 0, none⟩ = some (.iface tt x)) [0, 1, 2, 3, 4, 5, 6, 7, 8, 9, 10] (by kernel_rfl) ?hS50 (fun hHeld => ?rest50)
      case hS50 => ((try dsimp only); exact ⟨pc, v2_c3, xq⟩)
      case' rest50 => skip
      refine wpAnyT_take (by kernel_rfl) (by kernel_rfl) (i := 0) (oi := _) (v := ?v51) rfl (by kernel_rfl) (by kernel_rfl) (by kernel_rfl) (fun _ _ _ h => h) (Or.inl ⟨by rfl, ?hy51⟩) (by assumption) ?rest51
      case hy51 => ((intro w hSw; (try dsimp only at hSw); go_simp) <;> with_reducible rfl)
      case' rest51 => try simp only [List.getElem_toArray, List.getElem_cons_zero, List.getElem_cons_succ, Act.put, List.setIfInBounds_toArray, List.set_cons_zero, List.set_cons_succ]
      refine wpAnyT_take (by kernel_rfl) (by kernel_rfl) (i := 1) (oi := _) (v := ?v52) rfl (by kernel_rfl) (by kernel_rfl) (by kernel_rfl) (fun _ _ _ h => h) (Or.inl ⟨by rfl, ?hy52⟩) (by assumption) ?rest52
      case hy52 => ((intro w hSw; (try dsimp only at hSw); go_simp) <;> with_reducible rfl)
      case' rest52 => try simp only [List.getElem_toArray, List.getElem_cons_zero, List.getElem_cons_succ, Act.put, List.setIfInBounds_toArray, List.set_cons_zero, List.set_cons_succ]
      refine wpAnyT_take (by kernel_rfl) (by kernel_rfl) (i := 2) (oi := _) (v := ?v53) rfl (by kernel_rfl) (by kernel_rfl) (by kernel_rfl) (fun _ _ _ h => h) (Or.inl ⟨by rfl, ?hy53⟩) (by assumption) ?rest53
      case hy53 => ((intro w hSw; (try dsimp only at hSw); go_simp) <;> with_reducible rfl)
      case' rest53 => try simp only [List.getElem_toArray, List.getElem_cons_zero, List.getElem_cons_succ, Act.put, List.setIfInBounds_toArray, List.set_cons_zero, List.set_cons_succ]
      refine wpAnyT_take (by kernel_rfl) (by kernel_rfl) (i := 3) (oi := _) (v := ?v54) rfl (by kernel_rfl) (by kernel_rfl) (by kernel_rfl) (fun _ _ _ h => h) (Or.inl ⟨by rfl, ?hy54⟩) (by assumption) ?rest54
      case hy54 => ((intro w hSw; (try dsimp only at hSw); go_simp) <;> with_reducible rfl)
      case' rest54 => try simp only [List.getElem_toArray, List.getElem_cons_zero, List.getElem_cons_succ, Act.put, List.setIfInBounds_toArray, List.set_cons_zero, List.set_cons_succ]
      refine wpAnyT_take (by kernel_rfl) (by kernel_rfl) (i := 4) (oi := _) (v := ?v55) rfl (by kernel_rfl) (by kernel_rfl) (by kernel_rfl) (fun _ _ _ h => h) (Or.inl ⟨by rfl, ?hy55⟩) (by assumption) ?rest55
      case hy55 => ((intro w hSw; (try dsimp only at hSw); go_simp) <;> with_reducible rfl)
      case' rest55 => try simp only [List.getElem_toArray, List.getElem_cons_zero, List.getElem_cons_succ, Act.put, List.setIfInBounds_toArray, List.set_cons_zero, List.set_cons_succ]
      refine wpAnyT_take (by kernel_rfl) (by kernel_rfl) (i := 5) (oi := _) (v := ?v56) rfl (by kernel_rfl) (by kernel_rfl) (by kernel_rfl) (fun _ _ _ h => h) (Or.inl ⟨by rfl, ?hy56⟩) (by assumption) ?rest56
      case hy56 => ((intro w hSw; (try dsimp only at hSw); go_simp) <;> with_reducible rfl)
      case' rest56 => try simp only [List.getElem_toArray, List.getElem_cons_zero, List.getElem_cons_succ, Act.put, List.setIfInBounds_toArray, List.set_cons_zero, List.set_cons_succ]
      refine wpAnyT_take (by kernel_rfl) (by kernel_rfl) (i := 6) (oi := _) (v := ?v57) rfl (by kernel_rfl) (by kernel_rfl) (by kernel_rfl) (fun _ _ _ h => h) (Or.inl ⟨by rfl, ?hy57⟩) (by assumption) ?rest57
      case hy57 => ((intro w hSw; (try dsimp only at hSw); go_simp) <;> with_reducible rfl)
      case' rest57 => try simp only [List.getElem_toArray, List.getElem_cons_zero, List.getElem_cons_succ, Act.put, List.setIfInBounds_toArray, List.set_cons_zero, List.set_cons_succ]
      refine wpAnyT_one (i := 7) (o := _) rfl (by kernel_rfl) (fun K hK => ?_)
      go_simp
      have HSY := fa_Says a offT (endV er) [codeV er] (.iface tt x) Wb.drew (HCb.out.below (below_drew1 (Below.refl _ _)))
      rw [show bs offT = (⟨#[116, 104, 101, 32, 112, 111, 119, 101, 114, 32, 105, 115, 32, 111, 102, 102]⟩ : ByteArray) from rfl, HIS.out] at HSY
      refine HSY.mono ?_
      clear HSY
      rintro e wc ⟨rfl, hbs⟩
      have hbs' : Below Wb.heap.size Wb wc := ⟨hbs.os, hbs.tape, hbs.output, hbs.size, hbs.block⟩
      have HBS := hide hbs'
      try dsimp only
      refine hK.out _ _ ?hS59 (fun hHeld => ?rest59)
      case hS59 => ((try dsimp only); (exact ⟨(HBS.out.cell (lt_of_cell pc)).trans pc, (HBS.out.cell (lt_of_cell v2_c3)).trans v2_c3, (HBS.out.cell (lt_of_cell xq)).trans xq⟩))
      case' rest59 => (clear hK K; try simp only [List.getElem_toArray, List.getElem_cons_zero, List.getElem_cons_succ, Act.put, List.setIfInBounds_toArray, List.set_cons_zero, List.set_cons_succ])
      clear hbs hbs'
      refine wpAnyT_take (by kernel_rfl) (by kernel_rfl) (i := 8) (oi := _) (v := ?v60) rfl (by kernel_rfl) (by kernel_rfl) (by kernel_rfl) (fun _ _ _ h => h) (Or.inl ⟨by rfl, ?hy60⟩) (by assumption) ?rest60
      case hy60 => ((intro w hSw; (try dsimp only at hSw); go_simp) <;> with_reducible rfl)
      case' rest60 => try simp only [List.getElem_toArray, List.getElem_cons_zero, List.getElem_cons_succ, Act.put, List.setIfInBounds_toArray, List.set_cons_zero, List.set_cons_succ]
      refine wpAnyT_take (by kernel_rfl) (by kernel_rfl) (i := 9) (oi := _) (v := ?v61) rfl (by kernel_rfl) (by kernel_rfl) (by kernel_rfl) (fun _ _ _ h => h) (Or.inl ⟨by rfl, ?hy61⟩) (by assumption) ?rest61
      case hy61 => ((intro w hSw; (try dsimp only at hSw); go_simp) <;> with_reducible rfl)
      case' rest61 => try simp only [List.getElem_toArray, List.getElem_cons_zero, List.getElem_cons_succ, Act.put, List.setIfInBounds_toArray, List.set_cons_zero, List.set_cons_succ]
      refine wpAnyT_take (by kernel_rfl) (by kernel_rfl) (i := 10) (oi := _) (v := ?v62) rfl (by kernel_rfl) (by kernel_rfl) (by kernel_rfl) (fun _ _ _ h => h) (Or.inl ⟨by rfl, ?hy62⟩) (by assumption) ?rest62
      case hy62 => ((intro w hSw; (try dsimp only at hSw); go_simp) <;> with_reducible rfl)
      case' rest62 => try simp only [List.getElem_toArray, List.getElem_cons_zero, List.getElem_cons_succ, Act.put, List.setIfInBounds_toArray, List.set_cons_zero, List.set_cons_succ]
      have VC := hide (show Blk wc pv 90 (vauC x0 xs odd false) from HVb.out.below HBS.out HVb.out.lt)
      have PC := hide (show Blk wc Pv 34 #[.pointer (some ⟨pv, 0, none⟩)] from HPb.out.below HBS.out HPb.out.lt)
      have QC := hide (show Blk wc P 145 #[.iface tt x] from HQb.out.below HBS.out HQb.out.lt)
      have fz9 := VC.out.frozen
      refine wpAnyT_late (i := 11) (o := _) rfl (by kernel_rfl) (by kernel_rfl) (fun K hK => ?_)
      go_simp
      refine hK.out _ _ ?rest64
      case' rest64 => (clear hK K; try simp only [List.getElem_toArray, List.getElem_cons_zero, List.getElem_cons_succ, Act.put, List.setIfInBounds_toArray, List.set_cons_zero, List.set_cons_succ])
      clear v2 xq pc fz9
      refine wpAnyT_done (by kernel_rfl) ?_ _
      repeat (clear hHeld)
      have oc : Only (fun k => k = pv) w (wc.setCell ⟨pv, 3, none⟩ (.bool (decide (er = 7)))) := Only.set (fun k => k = pv) (HBw.out.step HBS.out) (p := pv) (i := 3) rfl _
      have HOC := hide oc
      have HGC := hide (HG.out.only oc (fun k hk => by rw [hk]; exact HMV.out))
      have VD := hide (show Blk (wc.setCell ⟨pv, 3, none⟩ (.bool (decide (er = 7)))) pv 90 _ from VC.out.set_ 3 (.bool (decide (er = 7))))
      have QD := hide (show Blk (wc.setCell ⟨pv, 3, none⟩ (.bool (decide (er = 7)))) P 145 _ from QC.out.far (p := ⟨pv, 3, none⟩) HNV.out.2 (.bool (decide (er = 7))))
      have HCD : Hid (Ch (wc.setCell ⟨pv, 3, none⟩ (.bool (decide (er = 7)))) a (endV er) [codeV er] (.iface tt x)) := hide (Ch.only1 VC.out (by decide) (by decide) (Only.set (fun k => k = pv) (Only.refl _ _) (p := pv) (i := 3) rfl _) (HCb.out.below HBS.out))
      obtain ⟨We, hWe⟩ : ∃ W, W = (wc.setCell ⟨pv, 3, none⟩ (.bool (decide (er = 7)))) := ⟨_, rfl⟩
      rw [← hWe] at HOC HGC VD QD HCD ⊢
      clear oc hWe VC PC QC HVb HPb HQb HBw
      have xq := QD.out.cell 0 (u := .iface tt x) rfl
      go_wp2_with fail
      refine (fa_Code a M (endV er) (codeV er) [] (.iface tt x) _ HGC.out HCD.out).mono ?_
      rintro e wz ⟨rfl, hbz⟩
      go_wp2_with fail
      rw [HR.out]
      refine ⟨rfl, ?_, HOC.out.step hbz⟩
      have h := VD.out.below hbz VD.out.lt
      rw [if_neg HNZ.out, if_neg HNZ.out]
      rw [show (false || decide (er = 7)) = decide (er = 7) from by rw [Bool.false_or]]
      exact h
    · skip
      have v2 := HVb.out
      unfold vauC at v2
      obtain ⟨v2_c0, v2_c1, v2_c2, v2_c3⟩ := cel4 v2
      have v2_f := v2.frozen
      have pc := HPb.out.cell 0 (u := .pointer (some ⟨pv, 0, none⟩)) rfl
      have xq := HQb.out.cell 0 (u := .iface tt x) rfl
      go_wp2_with fail
      refine wp_region_held_drew (S := (fun w' => w'.cell? ⟨Pv, 0, none⟩ = some (.pointer (some ⟨pv, 0, none⟩)) ∧ w'.cell? ⟨pv, 3, none⟩ = some (.bool true) ∧ w'.cell? ⟨P, 0, none⟩ = some (.iface tt x))) (by kernel_rfl) ?hS66 (fun hHeld => ?rest66)
      case hS66 => ((try dsimp only); (exact ⟨pc, v2_c3, xq⟩))
      case' rest66 => skip
      refine wpAnyH_take (i := 0) (oi := _) (v := ?v67) rfl (by kernel_rfl) (by kernel_rfl) (by kernel_rfl) (fun _ _ _ h => h) (Or.inl ⟨by rfl, ?hy67⟩) (by assumption) ?rest67
      case hy67 => ((intro w hSw; (try dsimp only at hSw); go_simp) <;> with_reducible rfl)
      case' rest67 => try simp only [List.getElem_toArray, List.getElem_cons_zero, List.getElem_cons_succ, Act.put, List.setIfInBounds_toArray, List.set_cons_zero, List.set_cons_succ]
      refine wpAnyH_take (i := 1) (oi := _) (v := ?v68) rfl (by kernel_rfl) (by kernel_rfl) (by kernel_rfl) (fun _ _ _ h => h) (Or.inl ⟨by rfl, ?hy68⟩) (by assumption) ?rest68
      case hy68 => ((intro w hSw; (try dsimp only at hSw); go_simp) <;> with_reducible rfl)
      case' rest68 => try simp only [List.getElem_toArray, List.getElem_cons_zero, List.getElem_cons_succ, Act.put, List.setIfInBounds_toArray, List.set_cons_zero, List.set_cons_succ]
      refine wpAnyH_take (i := 2) (oi := _) (v := ?v69) rfl (by kernel_rfl) (by kernel_rfl) (by kernel_rfl) (fun _ _ _ h => h) (Or.inl ⟨by rfl, ?hy69⟩) (by assumption) ?rest69
      case hy69 => ((intro w hSw; (try dsimp only at hSw); go_simp) <;> with_reducible rfl)
      case' rest69 => try simp only [List.getElem_toArray, List.getElem_cons_zero, List.getElem_cons_succ, Act.put, List.setIfInBounds_toArray, List.set_cons_zero, List.set_cons_succ]
      refine wpAnyH_take (i := 3) (oi := _) (v := ?v70) rfl (by kernel_rfl) (by kernel_rfl) (by kernel_rfl) (fun _ _ _ h => h) (Or.inl ⟨by rfl, ?hy70⟩) (by assumption) ?rest70
      case hy70 => ((intro w hSw; (try dsimp only at hSw); go_simp) <;> with_reducible rfl)
      case' rest70 => try simp only [List.getElem_toArray, List.getElem_cons_zero, List.getElem_cons_succ, Act.put, List.setIfInBounds_toArray, List.set_cons_zero, List.set_cons_succ]
      refine wpAnyH_take (i := 4) (oi := _) (v := ?v71) rfl (by kernel_rfl) (by kernel_rfl) (by kernel_rfl) (fun _ _ _ h => h) (Or.inl ⟨by rfl, ?hy71⟩) (by assumption) ?rest71
      case hy71 => ((intro w hSw; (try dsimp only at hSw); go_simp) <;> with_reducible rfl)
      case' rest71 => try simp only [List.getElem_toArray, List.getElem_cons_zero, List.getElem_cons_succ, Act.put, List.setIfInBounds_toArray, List.set_cons_zero, List.set_cons_succ]
      refine wpAnyH_take (i := 5) (oi := _) (v := ?v72) rfl (by kernel_rfl) (by kernel_rfl) (by kernel_rfl) (fun _ _ _ h => h) (Or.inl ⟨by rfl, ?hy72⟩) (by assumption) ?rest72
      case hy72 => ((intro w hSw; (try dsimp only at hSw); go_simp) <;> with_reducible rfl)
      case' rest72 => try simp only [List.getElem_toArray, List.getElem_cons_zero, List.getElem_cons_succ, Act.put, List.setIfInBounds_toArray, List.set_cons_zero, List.set_cons_succ]
      refine wpAnyH_take (i := 6) (oi := _) (v := undef) rfl (by kernel_rfl) (by kernel_rfl) (by kernel_rfl) (fun _ _ _ h => h) (Or.inr ⟨by rfl, rfl⟩) (by assumption) ?rest73
      case' rest73 => try simp only [List.getElem_toArray, List.getElem_cons_zero, List.getElem_cons_succ, Act.put, List.setIfInBounds_toArray, List.set_cons_zero, List.set_cons_succ]
      refine wpAnyH_take (i := 7) (oi := _) (v := undef) rfl (by kernel_rfl) (by kernel_rfl) (by kernel_rfl) (fun _ _ _ h => h) (Or.inr ⟨by rfl, rfl⟩) (by assumption) ?rest74
      case' rest74 => try simp only [List.getElem_toArray, List.getElem_cons_zero, List.getElem_cons_succ, Act.put, List.setIfInBounds_toArray, List.set_cons_zero, List.set_cons_succ]
      refine wpAnyH_take (i := 8) (oi := _) (v := ?v75) rfl (by kernel_rfl) (by kernel_rfl) (by kernel_rfl) (fun _ _ _ h => h) (Or.inl ⟨by rfl, ?hy75⟩) (by assumption) ?rest75
      case hy75 => ((intro w hSw; (try dsimp only at hSw); go_simp) <;> with_reducible rfl)
      case' rest75 => try simp only [List.getElem_toArray, List.getElem_cons_zero, List.getElem_cons_succ, Act.put, List.setIfInBounds_toArray, List.set_cons_zero, List.set_cons_succ]
      refine wpAnyH_take (i := 9) (oi := _) (v := ?v76) rfl (by kernel_rfl) (by kernel_rfl) (by kernel_rfl) (fun _ _ _ h => h) (Or.inl ⟨by rfl, ?hy76⟩) (by assumption) ?rest76
      case hy76 => ((intro w hSw; (try dsimp only at hSw); go_simp) <;> with_reducible rfl)
      case' rest76 => try simp only [List.getElem_toArray, List.getElem_cons_zero, List.getElem_cons_succ, Act.put, List.setIfInBounds_toArray, List.set_cons_zero, List.set_cons_succ]
      refine wpAnyH_take (i := 10) (oi := _) (v := ?v77) rfl (by kernel_rfl) (by kernel_rfl) (by kernel_rfl) (fun _ _ _ h => h) (Or.inl ⟨by rfl, ?hy77⟩) (by assumption) ?rest77
      case hy77 => ((intro w hSw; (try dsimp only at hSw); go_simp) <;> with_reducible rfl)
      case' rest77 => try simp only [List.getElem_toArray, List.getElem_cons_zero, List.getElem_cons_succ, Act.put, List.setIfInBounds_toArray, List.set_cons_zero, List.set_cons_succ]
      have VC := hide (show Blk Wb.drew pv 90 (vauC x0 xs odd true) from HVb.out.below (below_drew1 (Below.refl Wb.heap.size Wb)) HVb.out.lt)
      have PC := hide (show Blk Wb.drew Pv 34 #[.pointer (some ⟨pv, 0, none⟩)] from HPb.out.below (below_drew1 (Below.refl Wb.heap.size Wb)) HPb.out.lt)
      have QC := hide (show Blk Wb.drew P 145 #[.iface tt x] from HQb.out.below (below_drew1 (Below.refl Wb.heap.size Wb)) HQb.out.lt)
      have fz9 := VC.out.frozen
      refine wpAnyH_ready (rs := [11]) (by kernel_rfl) (by simp) ?_
      refine AllReadyH.cons (o := _) rfl (fun K hK => ?_) AllReadyH.nil
      go_simp
      refine hK.out _ _ ?hS80 (fun hHeld => ?rest80)
      case hS80 => ((try dsimp only); (exact ⟨(PC.out.far (p := ⟨pv, 3, none⟩) HNV.out.1 _).cell 0 rfl, (VC.out.set_ 3 _).cell 3 rfl, (QC.out.far (p := ⟨pv, 3, none⟩) HNV.out.2 _).cell 0 rfl⟩))
      case' rest80 => (clear hK K; try simp only [List.getElem_toArray, List.getElem_cons_zero, List.getElem_cons_succ, Act.put, List.setIfInBounds_toArray, List.set_cons_zero, List.set_cons_succ])
      clear v2 xq pc fz9
      refine wpAnyH_done (by kernel_rfl) ?_ _
      have hEnd := hHeld.2
      repeat (clear hHeld)
      have oc : Only (fun k => k = pv) w (Wb.setCell ⟨pv, 3, none⟩ (.bool true)).drew := (Only.set (fun k => k = pv) HBw.out (p := pv) (i := 3) rfl _).drew
      have HOC := hide oc
      have HGC := hide (HG.out.only oc (fun k hk => by rw [hk]; exact HMV.out))
      have VD := hide (show Blk (Wb.setCell ⟨pv, 3, none⟩ (.bool true)).drew pv 90 _ from VC.out.set_ 3 (.bool true))
      have QD := hide (show Blk (Wb.setCell ⟨pv, 3, none⟩ (.bool true)).drew P 145 _ from QC.out.far (p := ⟨pv, 3, none⟩) HNV.out.2 (.bool true))
      have HCD : Hid (Ch (Wb.setCell ⟨pv, 3, none⟩ (.bool true)).drew a (endV er) [codeV er] (.iface tt x)) := hide (Ch.only1 HVb.out (by decide) (by decide) (Only.set (fun k => k = pv) (Only.refl _ _) (p := pv) (i := 3) rfl _).drew (HCb.out))
      obtain ⟨We, hWe⟩ : ∃ W, W = (Wb.setCell ⟨pv, 3, none⟩ (.bool true)).drew := ⟨_, rfl⟩
      rw [← hWe] at HOC HGC VD QD HCD ⊢
      clear oc hWe VC PC QC HVb HPb HQb HBw
      have xq := QD.out.cell 0 (u := .iface tt x) rfl
      go_wp2_with fail
      refine (fa_Code a M (endV er) (codeV er) [] (.iface tt x) _ HGC.out HCD.out).mono ?_
      rintro e wz ⟨rfl, hbz⟩
      go_wp2_with fail
      rw [HR.out]
      refine ⟨rfl, ?_, HOC.out.step hbz⟩
      have h := VD.out.below hbz VD.out.lt
      rw [if_neg HNZ.out, if_neg HNZ.out]
      rw [show (true || decide (er = 7)) = true from by rfl]
      exact h
end
end Go.Proofs.YtehabbnohoomjaaGreatDoor

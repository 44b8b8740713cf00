/- Package vault: the end of keep. -/
import Derived.Test.YtehabbnohoomjaaGreatDoorC01
import Derived.Test.YtehabbnohoomjaaGreatDoorC19
import Derived.Test.YtehabbnohoomjaaGreatDoorC25
namespace Go.Proofs.YtehabbnohoomjaaGreatDoor
section
set_option linter.unusedVariables false
set_option linter.unusedSimpArgs false
set_option linter.unnecessarySimpa false
open Go.RowKit Go.Extern.Stop Go.Stop Go.Extern
set_option maxRecDepth 20000
set_option maxHeartbeats 8000000

def vauC (x0 xs : Value) (odd off : Bool) : Array Value := #[x0, xs, .bool odd, .bool off]
def EndR (pv : Nat) (x0 xs xl : Value) (odd off : Bool) (er : Int) (w : World) (e : Ending) (w' : World) : Prop :=
  e = .returned (.int .u32 (codeV er : Nat)) ∧ Blk w' pv 90 (vauC x0 (if er = 0 then xl else xs) (if er = 0 then false else odd) (off || decide (er = 7))) ∧ Only (fun g => g = pv) w w'
theorem va_end (a : Nat → Addr) (M pv Pl Pv : Nat) (x0 xs : Value) (odd off : Bool) (As : Option Addr) (ns cs : Nat) (er : Int) (u : Value) (w : World) (hG : GV w a M) (hM : M ≤ w.heap.size) (hMv : M ≤ pv) (hu : CauV w a er u)
    (hV : Blk w pv 90 (vauC x0 xs odd off)) (hl : Blk w Pl 27 #[.slice As ns cs]) (hv : Blk w Pv 34 #[.pointer (some ⟨pv, 0, none⟩)]) :
    Calls Tryz.prog 89 #[.agg #[u], .pointer (some ⟨Pl, 0, none⟩), .pointer (some ⟨Pv, 0, none⟩)] w (EndR pv x0 xs (.slice As ns cs) odd off er w) := by
  have q0 := blk_one w 145 #[u]
  have hb0 := below_alloc (Below.refl w.heap.size w) (.cells #[u] 145)
  obtain ⟨W0, hW0⟩ : ∃ W, W = w.alloc (.cells #[u] 145) := ⟨_, rfl⟩
  obtain ⟨P, hP⟩ : ∃ P, P = w.heap.size := ⟨_, rfl⟩
  rw [← hW0] at q0 hb0
  rw [← hP] at q0
  have HQ := hide q0
  have HB0 := hide hb0
  have HW0 := hide hW0
  have HP := hide hP
  have HU := hide hu
  have HU0 := hide (hu.below hb0)
  have HG := hide hG
  have HM := hide hM
  have HMV := hide hMv
  have HV := hide hV
  have HL := hide hl
  have HPV := hide hv
  have hne : pv ≠ P := by have := hV.lt; rw [hP]; omega
  obtain ⟨R0, hR0⟩ : ∃ R0, R0 = EndR pv x0 xs (.slice As ns cs) odd off er w := ⟨_, rfl⟩
  rw [← hR0]
  have HR := hide hR0
  clear q0 hb0 hW0 hP hu hG hM hMv hV hl hv hR0
  rcases HU.out.shape with ⟨h0, rfl⟩ | ⟨h0, tt, x, rfl⟩
  · subst h0
    go_enter Tryz.func89, Tryz.ntmps89
    go_wp2_with fail
    rw [← HW0.out, ← HP.out]
    have x0' := HQ.out.cell 0 (u := .nilIface) rfl
    go_wp2_with fail
    refine (fa_Depth0 _).mono ?_
    rintro e w1 ⟨rfl, hb1⟩
    have HB1 := hide (below_step hb1 HB0.out)
    have v1 := HV.out.below HB1.out HV.out.lt
    have l1 := HL.out.below HB1.out HL.out.lt
    have p1 := HPV.out.below HB1.out HPV.out.lt
    have lc := l1.cell 0 (u := .slice As ns cs) rfl
    have pc := p1.cell 0 (u := .pointer (some ⟨pv, 0, none⟩)) rfl
    unfold vauC at v1
    obtain ⟨v1_c0, v1_c1, v1_c2, v1_c3⟩ := cel4 v1
    have v1_f := v1.frozen
    go_wp2_with fail
    have HN1 : Hid (Pl ≠ pv) := hide (blk_tne v1 l1 (by decide))
    have HN2 : Hid (Pv ≠ pv) := hide (blk_tne v1 p1 (by decide))
    have L1 := hide l1
    have P1 := hide p1
    refine wp_region_held_drew (S := (fun w' => w'.cell? ⟨Pl, 0, none⟩ = some (.slice As ns cs) ∧ w'.cell? ⟨Pv, 0, none⟩ = some (.pointer (some ⟨pv, 0, none⟩)))) (by kernel_rfl) ?hS1 (fun hHeld => ?rest1)
    case hS1 => ((try dsimp only); (exact ⟨lc, pc⟩))
    case' rest1 => skip
    refine tkH 0 ?_
    try simp only [PqL, Act.put]
    refine tkH 1 ?_
    try simp only [PqL, Act.put]
    refine tkH 2 ?_
    try simp only [PqL, Act.put]
    refine tkH 3 ?_
    try simp only [PqL, Act.put]
    refine tkH 4 ?_
    try simp only [PqL, Act.put]
    refine wpAnyH_ready (rs := [5]) (by kernel_rfl) (by simp) ?_
    refine AllReadyH.cons (o := _) rfl (fun K hK => ?_) AllReadyH.nil
    go_simp
    refine hK.out _ _ ?hS9 (fun hHeld => ?rest9)
    case hS9 => ((try dsimp only); (exact ⟨(L1.out.far (p := ⟨pv, 1, none⟩) HN1.out _).cell 0 rfl, (P1.out.far (p := ⟨pv, 1, none⟩) HN2.out _).cell 0 rfl⟩))
    case' rest9 => (clear hK K; try simp only [PqL, Act.put])
    refine tkH 6 ?_
    try simp only [PqL, Act.put]
    refine tkH 7 ?_
    try simp only [PqL, Act.put]
    refine wpAnyH_ready (rs := [8]) (by kernel_rfl) (by simp) ?_
    refine AllReadyH.cons (o := _) rfl (fun K hK => ?_) AllReadyH.nil
    go_simp
    refine hK.out _ _ ?hS14 (fun hHeld => ?rest14)
    case hS14 => ((try dsimp only); (exact ⟨((L1.out.far (p := ⟨pv, 1, none⟩) HN1.out _).far (p := ⟨pv, 2, none⟩) HN1.out _).cell 0 rfl, ((P1.out.far (p := ⟨pv, 1, none⟩) HN2.out _).far (p := ⟨pv, 2, none⟩) HN2.out _).cell 0 rfl⟩))
    case' rest14 => (clear hK K; try simp only [PqL, Act.put])
    refine wpAnyH_done (by kernel_rfl) ?_ _
    have hEnd := hHeld.2
    repeat (clear hHeld)
    have hW1 : Only (fun k => k = pv) w ((w1.setCell ⟨pv, 1, none⟩ (.slice As ns cs)).setCell ⟨pv, 2, none⟩ (.bool false)).drew := (Only.set (fun k => k = pv) (Only.set (fun k => k = pv) (Only.of_below HB1.out) (p := pv) (i := 1) rfl _) (p := pv) (i := 2) rfl _).drew
    have HBw := hide hW1
    have HVb : Hid (Blk ((w1.setCell ⟨pv, 1, none⟩ (.slice As ns cs)).setCell ⟨pv, 2, none⟩ (.bool false)).drew pv 90 (vauC x0 (.slice As ns cs) false off)) := hide ((v1.set_ 1 (.slice As ns cs)).set_ 2 (.bool false))
    have HPb : Hid (Blk ((w1.setCell ⟨pv, 1, none⟩ (.slice As ns cs)).setCell ⟨pv, 2, none⟩ (.bool false)).drew Pv 34 #[.pointer (some ⟨pv, 0, none⟩)]) := hide ((P1.out.far (p := ⟨pv, 1, none⟩) HN2.out _).far (p := ⟨pv, 2, none⟩) HN2.out _)
    have HQb : Hid (Blk ((w1.setCell ⟨pv, 1, none⟩ (.slice As ns cs)).setCell ⟨pv, 2, none⟩ (.bool false)).drew P 145 #[.nilIface]) := hide (((HQ.out.below hb1 HQ.out.lt).far (p := ⟨pv, 1, none⟩) (by exact Ne.symm hne) _).far (p := ⟨pv, 2, none⟩) (by exact Ne.symm hne) _)
    have HNV : Hid (Pv ≠ pv ∧ P ≠ pv) := hide ⟨HN2.out, Ne.symm hne⟩
    obtain ⟨Wb, hWb⟩ : ∃ W, W = ((w1.setCell ⟨pv, 1, none⟩ (.slice As ns cs)).setCell ⟨pv, 2, none⟩ (.bool false)).drew := ⟨_, rfl⟩
    rw [← hWb] at HBw HVb HPb HQb ⊢
    clear hW1 hWb v1 v1_c0 v1_c1 v1_c2 v1_c3 v1_f l1 p1 lc pc L1 P1 HN1 HN2 HB1 hb1 x0' HU HU0
    cases off
    · skip
      have v2 := HVb.out
      unfold vauC at v2
      obtain ⟨v2_c0, v2_c1, v2_c2, v2_c3⟩ := cel4 v2
      have v2_f := v2.frozen
      have pc := HPb.out.cell 0 (u := .pointer (some ⟨pv, 0, none⟩)) rfl
      have xq := HQb.out.cell 0 (u := .nilIface) rfl
      go_wp2_with fail
      refine wp_region_held_drew (S := (fun w' => w'.cell? ⟨Pv, 0, none⟩ = some (.pointer (some ⟨pv, 0, none⟩)) ∧ w'.cell? ⟨pv, 3, none⟩ = some (.bool false) ∧ w'.cell? ⟨P, 0, none⟩ = some (.nilIface))) (by kernel_rfl) ?hS16 (fun hHeld => ?rest16)
      case hS16 => ((try dsimp only); (exact ⟨pc, v2_c3, xq⟩))
      case' rest16 => skip
      refine tkH 0 ?_
      try simp only [PqL, Act.put]
      refine tkH 1 ?_
      try simp only [PqL, Act.put]
      refine tkH 2 ?_
      try simp only [PqL, Act.put]
      refine tkH 3 ?_
      try simp only [PqL, Act.put]
      refine tkH 4 ?_
      try simp only [PqL, Act.put]
      refine tkH 5 ?_
      try simp only [PqL, Act.put]
      refine tkH 6 ?_
      try simp only [PqL, Act.put]
      refine wpAnyH_ready (rs := [7]) (by kernel_rfl) (by simp) ?_
      refine AllReadyH.cons (o := _) rfl (fun K hK => ?_) AllReadyH.nil
      go_simp
      have HSY := fa_Says0 offT Wb.drew
      rw [show bs offT = (⟨#[116, 104, 101, 32, 112, 111, 119, 101, 114, 32, 105, 115, 32, 111, 102, 102]⟩ : ByteArray) from rfl] at HSY
      refine HSY.mono ?_
      clear HSY
      rintro e wc ⟨rfl, hbs⟩
      have hbs' : Below Wb.heap.size Wb wc := ⟨hbs.os, hbs.tape, hbs.output, hbs.size, hbs.block⟩
      have HBS := hide hbs'
      try dsimp only
      refine hK.out _ _ ?hS26 (fun hHeld => ?rest26)
      case hS26 => ((try dsimp only); (exact ⟨(HBS.out.cell (lt_of_cell pc)).trans pc, (HBS.out.cell (lt_of_cell v2_c3)).trans v2_c3, (HBS.out.cell (lt_of_cell xq)).trans xq⟩))
      case' rest26 => (clear hK K; try simp only [PqL, Act.put])
      clear hbs hbs'
      refine tkH 8 ?_
      try simp only [PqL, Act.put]
      refine tkH 9 ?_
      try simp only [PqL, Act.put]
      refine tkH 10 ?_
      try simp only [PqL, Act.put]
      have VC := hide (show Blk wc pv 90 (vauC x0 (.slice As ns cs) false false) from HVb.out.below HBS.out HVb.out.lt)
      have PC := hide (show Blk wc Pv 34 #[.pointer (some ⟨pv, 0, none⟩)] from HPb.out.below HBS.out HPb.out.lt)
      have QC := hide (show Blk wc P 145 #[.nilIface] from HQb.out.below HBS.out HQb.out.lt)
      have fz9 := VC.out.frozen
      refine wpAnyH_ready (rs := [11]) (by kernel_rfl) (by simp) ?_
      refine AllReadyH.cons (o := _) rfl (fun K hK => ?_) AllReadyH.nil
      go_simp
      refine hK.out _ _ ?hS32 (fun hHeld => ?rest32)
      case hS32 => ((try dsimp only); (exact ⟨(PC.out.far (p := ⟨pv, 3, none⟩) HNV.out.1 _).cell 0 rfl, (VC.out.set_ 3 _).cell 3 rfl, (QC.out.far (p := ⟨pv, 3, none⟩) HNV.out.2 _).cell 0 rfl⟩))
      case' rest32 => (clear hK K; try simp only [PqL, Act.put])
      clear v2 xq pc fz9
      refine wpAnyH_done (by kernel_rfl) ?_ _
      have hEnd := hHeld.2
      repeat (clear hHeld)
      have oc : Only (fun k => k = pv) w (wc.setCell ⟨pv, 3, none⟩ (.bool false)) := Only.set (fun k => k = pv) (HBw.out.step HBS.out) (p := pv) (i := 3) rfl _
      have HOC := hide oc
      have HGC := hide (HG.out.only oc (fun k hk => by rw [hk]; exact HMV.out))
      have VD := hide (show Blk (wc.setCell ⟨pv, 3, none⟩ (.bool false)) pv 90 _ from VC.out.set_ 3 (.bool false))
      have QD := hide (show Blk (wc.setCell ⟨pv, 3, none⟩ (.bool false)) P 145 _ from QC.out.far (p := ⟨pv, 3, none⟩) HNV.out.2 (.bool false))
      obtain ⟨We, hWe⟩ : ∃ W, W = (wc.setCell ⟨pv, 3, none⟩ (.bool false)) := ⟨_, rfl⟩
      rw [← hWe] at HOC HGC VD QD ⊢
      clear oc hWe VC PC QC HVb HPb HQb HBw
      have xq := QD.out.cell 0 (u := .nilIface) rfl
      go_wp2_with fail
      refine (fa_Code0 _).mono ?_
      rintro e wz ⟨rfl, hbz⟩
      go_wp2_with fail
      rw [HR.out]
      refine ⟨rfl, ?_, HOC.out.step hbz⟩
      have h := VD.out.below hbz VD.out.lt
      exact h
    · skip
      have v2 := HVb.out
      unfold vauC at v2
      obtain ⟨v2_c0, v2_c1, v2_c2, v2_c3⟩ := cel4 v2
      have v2_f := v2.frozen
      have pc := HPb.out.cell 0 (u := .pointer (some ⟨pv, 0, none⟩)) rfl
      have xq := HQb.out.cell 0 (u := .nilIface) rfl
      go_wp2_with fail
      refine wp_region_held_drew (S := (fun w' => w'.cell? ⟨Pv, 0, none⟩ = some (.pointer (some ⟨pv, 0, none⟩)) ∧ w'.cell? ⟨pv, 3, none⟩ = some (.bool true) ∧ w'.cell? ⟨P, 0, none⟩ = some (.nilIface))) (by kernel_rfl) ?hS34 (fun hHeld => ?rest34)
      case hS34 => ((try dsimp only); (exact ⟨pc, v2_c3, xq⟩))
      case' rest34 => skip
      refine tkH 0 ?_
      try simp only [PqL, Act.put]
      refine tkH 1 ?_
      try simp only [PqL, Act.put]
      refine tkH 2 ?_
      try simp only [PqL, Act.put]
      refine tkH 3 ?_
      try simp only [PqL, Act.put]
      refine tkH 4 ?_
      try simp only [PqL, Act.put]
      refine tkH 5 ?_
      try simp only [PqL, Act.put]
      refine wpAnyH_take (i := 6) (oi := _) (v := undef) rfl (by kernel_rfl) (by kernel_rfl) (by kernel_rfl) (fun _ _ _ h => h) (Or.inr ⟨by rfl, rfl⟩) (by assumption) ?rest41
      case' rest41 => try simp only [PqL, Act.put]
      refine wpAnyH_take (i := 7) (oi := _) (v := undef) rfl (by kernel_rfl) (by kernel_rfl) (by kernel_rfl) (fun _ _ _ h => h) (Or.inr ⟨by rfl, rfl⟩) (by assumption) ?rest42
      case' rest42 => try simp only [PqL, Act.put]
      refine tkH 8 ?_
      try simp only [PqL, Act.put]
      refine tkH 9 ?_
      try simp only [PqL, Act.put]
      refine tkH 10 ?_
      try simp only [PqL, Act.put]
      have VC := hide (show Blk Wb.drew pv 90 (vauC x0 (.slice As ns cs) false true) from HVb.out.below (below_drew1 (Below.refl Wb.heap.size Wb)) HVb.out.lt)
      have PC := hide (show Blk Wb.drew Pv 34 #[.pointer (some ⟨pv, 0, none⟩)] from HPb.out.below (below_drew1 (Below.refl Wb.heap.size Wb)) HPb.out.lt)
      have QC := hide (show Blk Wb.drew P 145 #[.nilIface] from HQb.out.below (below_drew1 (Below.refl Wb.heap.size Wb)) HQb.out.lt)
      have fz9 := VC.out.frozen
      refine wpAnyH_ready (rs := [11]) (by kernel_rfl) (by simp) ?_
      refine AllReadyH.cons (o := _) rfl (fun K hK => ?_) AllReadyH.nil
      go_simp
      refine hK.out _ _ ?hS48 (fun hHeld => ?rest48)
      case hS48 => ((try dsimp only); (exact ⟨(PC.out.far (p := ⟨pv, 3, none⟩) HNV.out.1 _).cell 0 rfl, (VC.out.set_ 3 _).cell 3 rfl, (QC.out.far (p := ⟨pv, 3, none⟩) HNV.out.2 _).cell 0 rfl⟩))
      case' rest48 => (clear hK K; try simp only [PqL, Act.put])
      clear v2 xq pc fz9
      refine wpAnyH_done (by kernel_rfl) ?_ _
      have hEnd := hHeld.2
      repeat (clear hHeld)
      have oc : Only (fun k => k = pv) w (Wb.setCell ⟨pv, 3, none⟩ (.bool true)).drew := (Only.set (fun k => k = pv) HBw.out (p := pv) (i := 3) rfl _).drew
      have HOC := hide oc
      have HGC := hide (HG.out.only oc (fun k hk => by rw [hk]; exact HMV.out))
      have VD := hide (show Blk (Wb.setCell ⟨pv, 3, none⟩ (.bool true)).drew pv 90 _ from VC.out.set_ 3 (.bool true))
      have QD := hide (show Blk (Wb.setCell ⟨pv, 3, none⟩ (.bool true)).drew P 145 _ from QC.out.far (p := ⟨pv, 3, none⟩) HNV.out.2 (.bool true))
      obtain ⟨We, hWe⟩ : ∃ W, W = (Wb.setCell ⟨pv, 3, none⟩ (.bool true)).drew := ⟨_, rfl⟩
      rw [← hWe] at HOC HGC VD QD ⊢
      clear oc hWe VC PC QC HVb HPb HQb HBw
      have xq := QD.out.cell 0 (u := .nilIface) rfl
      go_wp2_with fail
      refine (fa_Code0 _).mono ?_
      rintro e wz ⟨rfl, hbz⟩
      go_wp2_with fail
      rw [HR.out]
      refine ⟨rfl, ?_, HOC.out.step hbz⟩
      have h := VD.out.below hbz VD.out.lt
      exact h
  · have HNZ := hide h0
    have HC0 : Hid (Ch W0 a (endV er) [codeV er] (.iface tt x)) := hide (by
      rcases HU0.out with ⟨h, _⟩ | ⟨_, h⟩
      · exact absurd h h0
      · exact h)
    have HIS : Hid (isT (endV er) offT = decide (er = 7)) := hide (by
      unfold endV
      by_cases h7 : er = 7
      · rw [if_pos h7, h7]; decide
      · rw [if_neg h7]
        by_cases h8 : er = 10 ∨ er = 6
        · rw [if_pos h8]; simp [isT, h7]; decide
        · rw [if_neg h8]; simp [isT, h7])
    have HDP := hide (fa_Depth a M (endV er) [codeV er] (.iface tt x) _ (HG.out.below HB0.out) HC0.out (Nat.le_trans HM.out HB0.out.size) (by simp))
    rw [show (([codeV er].length : Nat) : Int) = 1 from rfl] at HDP
    have x0' := HQ.out.cell 0 (u := .iface tt x) rfl
    clear h0 HU HU0
    go_enter Tryz.func89, Tryz.ntmps89
    go_wp2_with fail
    rw [← HW0.out, ← HP.out]
    go_wp2_with fail
    refine HDP.out.mono ?_
    rintro e Wb ⟨rfl, hb1⟩
    have HB1 := hide (below_step hb1 HB0.out)
    have HBw := hide (Only.of_below (F := fun k => k = pv) HB1.out)
    have HVb := hide (HV.out.below HB1.out HV.out.lt)
    have HPb := hide (HPV.out.below HB1.out HPV.out.lt)
    have HQb := hide (HQ.out.below hb1 HQ.out.lt)
    have HCb := hide (HC0.out.below hb1)
    have HNV : Hid (Pv ≠ pv ∧ P ≠ pv) := hide ⟨blk_tne HVb.out HPb.out (by decide), Ne.symm hne⟩
    clear hb1 x0' HC0 HDP HB1
    cases off
    · skip
      have v2 := HVb.out
      unfold vauC at v2
      obtain ⟨v2_c0, v2_c1, v2_c2, v2_c3⟩ := cel4 v2
      have v2_f := v2.frozen
      have pc := HPb.out.cell 0 (u := .pointer (some ⟨pv, 0, none⟩)) rfl
      have xq := HQb.out.cell 0 (u := .iface tt x) rfl
      go_wp2_with fail
      refine wp_region_T (fun w' => w'.cell? ⟨Pv, 0, none⟩ = some (.pointer (some ⟨pv, 0, none⟩)) ∧ w'.cell? ⟨pv, 3, none⟩ = some (.bool false) ∧ w'.cell? ⟨P, 0, none⟩ = some (.iface tt x)) [0, 1, 2, 3, 4, 5, 6, 7, 8, 9, 10] (by kernel_rfl) ?hS50 (fun hHeld => ?rest50)
      case hS50 => ((try dsimp only); exact ⟨pc, v2_c3, xq⟩)
      case' rest50 => skip
      refine tkT 0 ?_
      try simp only [PqL, Act.put]
      refine tkT 1 ?_
      try simp only [PqL, Act.put]
      refine tkT 2 ?_
      try simp only [PqL, Act.put]
      refine tkT 3 ?_
      try simp only [PqL, Act.put]
      refine tkT 4 ?_
      try simp only [PqL, Act.put]
      refine tkT 5 ?_
      try simp only [PqL, Act.put]
      refine tkT 6 ?_
      try simp only [PqL, Act.put]
      refine wpAnyT_one (i := 7) (o := _) rfl (by kernel_rfl) (fun K hK => ?_)
      go_simp
      have HSY := fa_Says a offT (endV er) [codeV er] (.iface tt x) Wb.drew (HCb.out.below (below_drew1 (Below.refl _ _)))
      rw [show bs offT = (⟨#[116, 104, 101, 32, 112, 111, 119, 101, 114, 32, 105, 115, 32, 111, 102, 102]⟩ : ByteArray) from rfl, HIS.out] at HSY
      refine HSY.mono ?_
      clear HSY
      rintro e wc ⟨rfl, hbs⟩
      have hbs' : Below Wb.heap.size Wb wc := ⟨hbs.os, hbs.tape, hbs.output, hbs.size, hbs.block⟩
      have HBS := hide hbs'
      try dsimp only
      refine hK.out _ _ ?hS59 (fun hHeld => ?rest59)
      case hS59 => ((try dsimp only); (exact ⟨(HBS.out.cell (lt_of_cell pc)).trans pc, (HBS.out.cell (lt_of_cell v2_c3)).trans v2_c3, (HBS.out.cell (lt_of_cell xq)).trans xq⟩))
      case' rest59 => (clear hK K; try simp only [PqL, Act.put])
      clear hbs hbs'
      refine tkT 8 ?_
      try simp only [PqL, Act.put]
      refine tkT 9 ?_
      try simp only [PqL, Act.put]
      refine tkT 10 ?_
      try simp only [PqL, Act.put]
      have VC := hide (show Blk wc pv 90 (vauC x0 xs odd false) from HVb.out.below HBS.out HVb.out.lt)
      have PC := hide (show Blk wc Pv 34 #[.pointer (some ⟨pv, 0, none⟩)] from HPb.out.below HBS.out HPb.out.lt)
      have QC := hide (show Blk wc P 145 #[.iface tt x] from HQb.out.below HBS.out HQb.out.lt)
      have fz9 := VC.out.frozen
      refine wpAnyT_late (i := 11) (o := _) rfl (by kernel_rfl) (by kernel_rfl) (fun K hK => ?_)
      go_simp
      refine hK.out _ _ ?rest64
      case' rest64 => (clear hK K; try simp only [PqL, Act.put])
      clear v2 xq pc fz9
      refine wpAnyT_done (by kernel_rfl) ?_ _
      repeat (clear hHeld)
      have oc : Only (fun k => k = pv) w (wc.setCell ⟨pv, 3, none⟩ (.bool (decide (er = 7)))) := Only.set (fun k => k = pv) (HBw.out.step HBS.out) (p := pv) (i := 3) rfl _
      have HOC := hide oc
      have HGC := hide (HG.out.only oc (fun k hk => by rw [hk]; exact HMV.out))
      have VD := hide (show Blk (wc.setCell ⟨pv, 3, none⟩ (.bool (decide (er = 7)))) pv 90 _ from VC.out.set_ 3 (.bool (decide (er = 7))))
      have QD := hide (show Blk (wc.setCell ⟨pv, 3, none⟩ (.bool (decide (er = 7)))) P 145 _ from QC.out.far (p := ⟨pv, 3, none⟩) HNV.out.2 (.bool (decide (er = 7))))
      have HCD : Hid (Ch (wc.setCell ⟨pv, 3, none⟩ (.bool (decide (er = 7)))) a (endV er) [codeV er] (.iface tt x)) := hide (Ch.only1 VC.out (by decide) (by decide) (Only.set (fun k => k = pv) (Only.refl _ _) (p := pv) (i := 3) rfl _) (HCb.out.below HBS.out))
      obtain ⟨We, hWe⟩ : ∃ W, W = (wc.setCell ⟨pv, 3, none⟩ (.bool (decide (er = 7)))) := ⟨_, rfl⟩
      rw [← hWe] at HOC HGC VD QD HCD ⊢
      clear oc hWe VC PC QC HVb HPb HQb HBw
      have xq := QD.out.cell 0 (u := .iface tt x) rfl
      go_wp2_with fail
      refine (fa_Code a M (endV er) (codeV er) [] (.iface tt x) _ HGC.out HCD.out).mono ?_
      rintro e wz ⟨rfl, hbz⟩
      go_wp2_with fail
      rw [HR.out]
      refine ⟨rfl, ?_, HOC.out.step hbz⟩
      have h := VD.out.below hbz VD.out.lt
      rw [if_neg HNZ.out, if_neg HNZ.out]
      rw [show (false || decide (er = 7)) = decide (er = 7) from by rw [Bool.false_or]]
      exact h
    · skip
      have v2 := HVb.out
      unfold vauC at v2
      obtain ⟨v2_c0, v2_c1, v2_c2, v2_c3⟩ := cel4 v2
      have v2_f := v2.frozen
      have pc := HPb.out.cell 0 (u := .pointer (some ⟨pv, 0, none⟩)) rfl
      have xq := HQb.out.cell 0 (u := .iface tt x) rfl
      go_wp2_with fail
      refine wp_region_held_drew (S := (fun w' => w'.cell? ⟨Pv, 0, none⟩ = some (.pointer (some ⟨pv, 0, none⟩)) ∧ w'.cell? ⟨pv, 3, none⟩ = some (.bool true) ∧ w'.cell? ⟨P, 0, none⟩ = some (.iface tt x))) (by kernel_rfl) ?hS66 (fun hHeld => ?rest66)
      case hS66 => ((try dsimp only); (exact ⟨pc, v2_c3, xq⟩))
      case' rest66 => skip
      refine tkH 0 ?_
      try simp only [PqL, Act.put]
      refine tkH 1 ?_
      try simp only [PqL, Act.put]
      refine tkH 2 ?_
      try simp only [PqL, Act.put]
      refine tkH 3 ?_
      try simp only [PqL, Act.put]
      refine tkH 4 ?_
      try simp only [PqL, Act.put]
      refine tkH 5 ?_
      try simp only [PqL, Act.put]
      refine wpAnyH_take (i := 6) (oi := _) (v := undef) rfl (by kernel_rfl) (by kernel_rfl) (by kernel_rfl) (fun _ _ _ h => h) (Or.inr ⟨by rfl, rfl⟩) (by assumption) ?rest73
      case' rest73 => try simp only [PqL, Act.put]
      refine wpAnyH_take (i := 7) (oi := _) (v := undef) rfl (by kernel_rfl) (by kernel_rfl) (by kernel_rfl) (fun _ _ _ h => h) (Or.inr ⟨by rfl, rfl⟩) (by assumption) ?rest74
      case' rest74 => try simp only [PqL, Act.put]
      refine tkH 8 ?_
      try simp only [PqL, Act.put]
      refine tkH 9 ?_
      try simp only [PqL, Act.put]
      refine tkH 10 ?_
      try simp only [PqL, Act.put]
      have VC := hide (show Blk Wb.drew pv 90 (vauC x0 xs odd true) from HVb.out.below (below_drew1 (Below.refl Wb.heap.size Wb)) HVb.out.lt)
      have PC := hide (show Blk Wb.drew Pv 34 #[.pointer (some ⟨pv, 0, none⟩)] from HPb.out.below (below_drew1 (Below.refl Wb.heap.size Wb)) HPb.out.lt)
      have QC := hide (show Blk Wb.drew P 145 #[.iface tt x] from HQb.out.below (below_drew1 (Below.refl Wb.heap.size Wb)) HQb.out.lt)
      have fz9 := VC.out.frozen
      refine wpAnyH_ready (rs := [11]) (by kernel_rfl) (by simp) ?_
      refine AllReadyH.cons (o := _) rfl (fun K hK => ?_) AllReadyH.nil
      go_simp
      refine hK.out _ _ ?hS80 (fun hHeld => ?rest80)
      case hS80 => ((try dsimp only); (exact ⟨(PC.out.far (p := ⟨pv, 3, none⟩) HNV.out.1 _).cell 0 rfl, (VC.out.set_ 3 _).cell 3 rfl, (QC.out.far (p := ⟨pv, 3, none⟩) HNV.out.2 _).cell 0 rfl⟩))
      case' rest80 => (clear hK K; try simp only [PqL, Act.put])
      clear v2 xq pc fz9
      refine wpAnyH_done (by kernel_rfl) ?_ _
      have hEnd := hHeld.2
      repeat (clear hHeld)
      have oc : Only (fun k => k = pv) w (Wb.setCell ⟨pv, 3, none⟩ (.bool true)).drew := (Only.set (fun k => k = pv) HBw.out (p := pv) (i := 3) rfl _).drew
      have HOC := hide oc
      have HGC := hide (HG.out.only oc (fun k hk => by rw [hk]; exact HMV.out))
      have VD := hide (show Blk (Wb.setCell ⟨pv, 3, none⟩ (.bool true)).drew pv 90 _ from VC.out.set_ 3 (.bool true))
      have QD := hide (show Blk (Wb.setCell ⟨pv, 3, none⟩ (.bool true)).drew P 145 _ from QC.out.far (p := ⟨pv, 3, none⟩) HNV.out.2 (.bool true))
      have HCD : Hid (Ch (Wb.setCell ⟨pv, 3, none⟩ (.bool true)).drew a (endV er) [codeV er] (.iface tt x)) := hide (Ch.only1 HVb.out (by decide) (by decide) (Only.set (fun k => k = pv) (Only.refl _ _) (p := pv) (i := 3) rfl _).drew (HCb.out))
      obtain ⟨We, hWe⟩ : ∃ W, W = (Wb.setCell ⟨pv, 3, none⟩ (.bool true)).drew := ⟨_, rfl⟩
      rw [← hWe] at HOC HGC VD QD HCD ⊢
      clear oc hWe VC PC QC HVb HPb HQb HBw
      have xq := QD.out.cell 0 (u := .iface tt x) rfl
      go_wp2_with fail
      refine (fa_Code a M (endV er) (codeV er) [] (.iface tt x) _ HGC.out HCD.out).mono ?_
      rintro e wz ⟨rfl, hbz⟩
      go_wp2_with fail
      rw [HR.out]
      refine ⟨rfl, ?_, HOC.out.step hbz⟩
      have h := VD.out.below hbz VD.out.lt
      rw [if_neg HNZ.out, if_neg HNZ.out]
      rw [show (true || decide (er = 7)) = true from by rfl]
      exact h
end
end Go.Proofs.YtehabbnohoomjaaGreatDoor
namespace Go.Proofs.YtehabbnohoomjaaGreatDoor
section
set_option linter.unusedVariables false
set_option linter.unusedSimpArgs false
set_option linter.unnecessarySimpa false
open Go.RowKit Go.Extern.Stop Go.Stop Go.Extern
set_option maxRecDepth 20000
set_option maxHeartbeats 8000000

def KeepR (pv : Nat) (xs xl : Value) (odd off : Bool) (Fj : Nat → Prop) (pj : Nat) (q : FP) (A : Option Addr) (n c : Nat) (J : JS) (S : FS) (kd : Int) (l : List SV) (w : World) (e : Ending) (w' : World) : Prop :=
  ∃ R ds', WrP J S kd l R ∧ e = .returned (.int .u32 (codeV R.2.2 : Nat)) ∧ Blk w' pv 90 (vauC (.pointer (some ⟨pj, 0, none⟩)) (if R.2.2 = 0 then xl else xs) (if R.2.2 = 0 then false else odd) (off || decide (R.2.2 = 7))) ∧
    JD w' (fun g => Fj g ∨ w.heap.size ≤ g) pj q.p A n c R.1 ds' ∧ FD w' q R.2.1 ∧ Only (fun g => Fj g ∨ q.F g ∨ g = pv) w w'
section
variable {Fj : Nat → Prop} {pj n c : Nat} {A : Option Addr} {J : JS} {ds : List (Option Addr × Nat)} {q : FP} {S : FS}
theorem va_keep (a : Nat → Addr) (M : Nat) (pv : Nat) (xs : Value) (odd off : Bool) (kd : Int) (As : Option Addr) (ns cs : Nat) (l : List SV) (w : World) (hG : GV w a M) (hM : M ≤ w.heap.size) (hMv : M ≤ pv)
    (hV : Blk w pv 90 (vauC (.pointer (some ⟨pj, 0, none⟩)) xs odd off)) (hD : JD w Fj pj q.p A n c J ds) (hS : FD w q S) (hdj : ∀ g, Fj g → ¬ q.F g) (hok : RunJ J S) (hops : S.ops + 2000 < 4611686018427387904)
    (hFw : ∀ g, Fj g ∨ q.F g → g < w.heap.size ∧ M ≤ g ∧ g ≠ pv) (hn : ns = l.length) (hc : ns ≤ cs) (hl : ns ≤ 1000) (hL : SlV w As l) (hf : fitsV l) :
    Calls Tryz.prog 49 #[.pointer (some ⟨pv, 0, none⟩), .int .i64 kd, .slice As ns cs] w (KeepR pv xs (.slice As ns cs) odd off Fj pj q A n c J S kd l w) := by
  have kk := blk_two w 34 27 #[.pointer (some ⟨pv, 0, none⟩)] #[.slice As ns cs]
  have hb0 := below_alloc (below_alloc (Below.refl w.heap.size w) (.cells #[.pointer (some ⟨pv, 0, none⟩)] 34)) (.cells #[.slice As ns cs] 27)
  have hsz : ((w.alloc (.cells #[.pointer (some ⟨pv, 0, none⟩)] 34)).alloc (.cells #[.slice As ns cs] 27)).heap.size = w.heap.size + 2 := by show ((w.heap.push _).push _).size = _; simp
  obtain ⟨W0, hW0⟩ : ∃ W, W = (w.alloc (.cells #[.pointer (some ⟨pv, 0, none⟩)] 34)).alloc (.cells #[.slice As ns cs] 27) := ⟨_, rfl⟩
  obtain ⟨P1, hP1⟩ : ∃ P, P = w.heap.size := ⟨_, rfl⟩
  obtain ⟨P2, hP2⟩ : ∃ P, P = w.heap.size + 1 := ⟨_, rfl⟩
  rw [← hW0] at kk hb0 hsz
  rw [← hP2, ← hP1] at kk
  have HK := hide kk
  have HB0 := hide hb0
  have HW0 := hide hW0
  have HP := hide (And.intro hP1 hP2)
  have hpv := hV.lt
  have v0 := (hV.below hb0 hV.lt).cell 0 (u := .pointer (some ⟨pj, 0, none⟩)) rfl
  have HWR := hide (va_write a M pv kd As ns cs l W0 (hG.below hb0) (Nat.le_trans hM hb0.size) v0 (hD.below hb0) (hS.below hb0) hdj hok hops (fun g hg => ⟨Nat.lt_of_lt_of_le (hFw g hg).1 hb0.size, (hFw g hg).2.1⟩) hn hc hl (hL.below hb0) hf)
  have HG := hide (And.intro hG (And.intro hM hMv))
  have HV := hide hV
  have HFW := hide hFw
  have HPV := hide hpv
  have HSZ := hide hsz
  obtain ⟨R0, hR0⟩ : ∃ R0, R0 = KeepR pv xs (.slice As ns cs) odd off Fj pj q A n c J S kd l w := ⟨_, rfl⟩
  rw [← hR0]
  have HR := hide hR0
  have c1 := HK.out.1.cell 0 (u := .pointer (some ⟨pv, 0, none⟩)) rfl
  have c2 := HK.out.2.cell 0 (u := .slice As ns cs) rfl
  clear kk hb0 hW0 hP1 hP2 hG hM hMv hV hD hS hdj hok hops hFw hn hc hl hL hf hR0 hpv v0 hsz
  go_enter Tryz.func49, Tryz.ntmps49
  go_wp2_with fail
  rw [← HW0.out, ← HP.out.1, show P1 + 1 = P2 by rw [HP.out.2, HP.out.1]]
  refine HWR.out.mono ?_
  rintro e w1 ⟨R, ds', u, hW, rfl, hu, hJ, hF, hO⟩
  have hbox : ∀ g, P1 ≤ g → ¬ (Fj g ∨ q.F g) := fun g hg h => by have := (HFW.out g h).1; have := HP.out.1; omega
  have hO' : Only (fun g => Fj g ∨ q.F g) w w1 := (Only.of_below HB0.out).trans hO (fun _ _ h => h)
  have k1 : Blk w1 P1 34 #[.pointer (some ⟨pv, 0, none⟩)] := (hO.block P1 HK.out.1.lt (hbox P1 (Nat.le_refl _))).trans HK.out.1
  have k2 : Blk w1 P2 27 #[.slice As ns cs] := (hO.block P2 HK.out.2.lt (hbox P2 (by have := HP.out.1; have := HP.out.2; omega))).trans HK.out.2
  have kv : Blk w1 pv 90 (vauC (.pointer (some ⟨pj, 0, none⟩)) xs odd off) := (hO'.block pv HPV.out (fun h => (HFW.out pv h).2.2 rfl)).trans HV.out
  have HE := hide (va_end a M pv P2 P1 (.pointer (some ⟨pj, 0, none⟩)) xs odd off As ns cs R.2.2 u w1 (HG.out.1.only hO' (fun g h => (HFW.out g h).2.1)) (Nat.le_trans HG.out.2.1 hO'.size) HG.out.2.2 hu kv k2 k1)
  have HX := hide (And.intro hW (And.intro hJ (And.intro hF hO')))
  have HS0 := hide HB0.out.size
  clear hW hu hJ hF hO hO' hbox kv k1 k2 c1 c2 HWR HK
  go_wp2_with fail
  refine HE.out.mono ?_
  rintro e w2 ⟨rfl, hB2, ho2⟩
  go_wp2_with fail
  rw [HR.out]
  refine ⟨R, ds', HX.out.1, rfl, hB2, ?_, ?_, ?_⟩
  · have h1 := HX.out.2.1.only ho2 (fun g hg e => by
      have h3 := HPV.out
      rcases hg with h | h
      · exact (HFW.out g (.inl h)).2.2 e
      · have h4 := HS0.out
        omega)
    exact h1.mono (fun g _ h => h.imp id (fun h => Nat.le_trans HS0.out h))
  · exact HX.out.2.2.1.only ho2 (fun g hg e => (HFW.out g (.inr hg)).2.2 e)
  · exact (HX.out.2.2.2.mono (fun g _ h => h.elim .inl (fun h => .inr (.inl h)))).trans ho2 (fun g _ h => .inr (.inr h))
end
end
end Go.Proofs.YtehabbnohoomjaaGreatDoor

/- Package vault: write. -/
import Derived.Test.YtehabbnohoomjaaGreatDoorC19
import Derived.Test.YtehabbnohoomjaaGreatDoorC22
import Derived.Test.YtehabbnohoomjaaGreatDoorC24
namespace Go.Proofs.YtehabbnohoomjaaGreatDoor
section
set_option linter.unusedVariables false
set_option linter.unusedSimpArgs false
set_option linter.unnecessarySimpa false
open Go.RowKit Go.Extern.Stop Go.Stop Go.Extern
set_option maxRecDepth 20000
set_option maxHeartbeats 8000000

/-- what a write brings: the journal, the flash, the answer -/
def WrP (J : JS) (S : FS) (kd : Int) (l : List SV) (R : JS × FS × Int) : Prop := ∃ b er, BuildR l b er ∧ ((er ≠ 0 ∧ R = (J, S, er)) ∨ (er = 0 ∧ R = appJ J S kd b))
/-- a journal that can be appended to -/
def RunJ (J : JS) (S : FS) : Prop := (J.dead || S.off) = true ∨ (J = openJ S ∧ S.off = false)
def WriteR (a : Nat → Addr) (Fj : Nat → Prop) (pj : Nat) (q : FP) (A : Option Addr) (n c : Nat) (J : JS) (S : FS) (kd : Int) (l : List SV) (w : World) (e : Ending) (w' : World) : Prop :=
  ∃ R ds' u, WrP J S kd l R ∧ e = .returned (.agg #[u]) ∧ CauV w' a R.2.2 u ∧ JD w' (fun g => Fj g ∨ w.heap.size ≤ g) pj q.p A n c R.1 ds' ∧ FD w' q R.2.1 ∧ Only (fun g => Fj g ∨ q.F g) w w'
section
variable {Fj : Nat → Prop} {pj n c : Nat} {A : Option Addr} {J : JS} {ds : List (Option Addr × Nat)} {q : FP} {S : FS}
theorem jo_Append (kd : Int) (w : World) (hD : JD w Fj pj q.p A n c J ds) (hS : FD w q S) (hdj : ∀ g, Fj g → ¬ q.F g) (hok : RunJ J S) {A2 : Option Addr} {m c2 : Nat} {d : List UInt8} (hm : m = d.length) (hml : m ≤ 35184372088832) (hs : Sl w A2 (d.map bv)) (hops : S.ops + 2000 < 4611686018427387904) :
    Calls Tryz.prog 134 #[.pointer (some ⟨pj, 0, none⟩), .int .i64 kd, .slice A2 m c2] w (AppR Fj pj q A n c (appJ J S kd d) w) := by
  rcases hok with h | ⟨h1, h2⟩
  · exact jo_Append_off kd w hD hS hdj h
  · exact jo_Append_ok kd w hD hS hdj h1 h2 hm hml hs hops
theorem va_write (a : Nat → Addr) (M : Nat) (pv : Nat) (kd : Int) (As : Option Addr) (ns cs : Nat) (l : List SV) (w : World) (hG : GV w a M) (hM : M ≤ w.heap.size) (hv : w.cell? ⟨pv, 0, none⟩ = some (.pointer (some ⟨pj, 0, none⟩)))
    (hD : JD w Fj pj q.p A n c J ds) (hS : FD w q S) (hdj : ∀ g, Fj g → ¬ q.F g) (hok : RunJ J S) (hops : S.ops + 2000 < 4611686018427387904)
    (hFw : ∀ g, Fj g ∨ q.F g → g < w.heap.size ∧ M ≤ g) (hn : ns = l.length) (hc : ns ≤ cs) (hl : ns ≤ 1000) (hL : SlV w As l) (hf : fitsV l) :
    Calls Tryz.prog 93 #[.pointer (some ⟨pv, 0, none⟩), .int .i64 kd, .slice As ns cs] w (WriteR a Fj pj q A n c J S kd l w) := by
  have q0 := blk_one w 145 #[.nilIface]
  have hb0 := below_alloc (Below.refl w.heap.size w) (.cells #[.nilIface] 145)
  obtain ⟨W0, hW0⟩ : ∃ W, W = w.alloc (.cells #[.nilIface] 145) := ⟨_, rfl⟩
  obtain ⟨P, hP⟩ : ∃ P, P = w.heap.size := ⟨_, rfl⟩
  rw [← hW0] at q0 hb0
  rw [← hP] at q0
  have HQ := hide q0
  have HB0 := hide hb0
  have HW0 := hide hW0
  have HP := hide hP
  have HBU := hide (snap_build As ns cs l W0 hn hc (by omega) (hL.below hb0) hf)
  have HG := hide hG
  have HM := hide hM
  have HV := hide hv
  have HD := hide hD
  have HS := hide hS
  have HDJ := hide hdj
  have HOK := hide hok
  have HOP := hide hops
  have HFW := hide hFw
  obtain ⟨R0, hR0⟩ : ∃ R0, R0 = WriteR a Fj pj q A n c J S kd l w := ⟨_, rfl⟩
  rw [← hR0]
  have HR := hide hR0
  clear q0 hb0 hW0 hP hG hM hv hD hS hdj hok hops hFw hn hc hl hL hf hR0
  go_enter Tryz.func93, Tryz.ntmps93
  go_wp2_with fail
  rw [← HW0.out, ← HP.out]
  refine HBU.out.mono ?_
  rintro e w1 ⟨Ab, nb, cb, b, er, rfl, hOb, hBR, hb1⟩
  have HB1 := hide (below_step hb1 HB0.out)
  have HOB := hide hOb
  have HBR := hide hBR
  have HQ1 := hide (HQ.out.below hb1 HQ.out.lt)
  clear hOb hBR hb1
  go_wp2_with fail
  refine (va_cause er a _ (HG.out.below HB1.out)).mono ?_
  rintro e w2 ⟨u, rfl, hu, hb2⟩
  have HB2 := hide (below_step hb2 HB1.out)
  have HOB2 := hide (HOB.out.below hb2)
  have HQ2 := hide (HQ1.out.below hb2 HQ1.out.lt)
  have HU := hide hu
  have hba := below_alloc (Below.refl w2.heap.size w2) (.cells #[u] 145)
  have HU3 := hide (hu.below hba)
  have HB3 := hide (below_step hba HB2.out)
  have HOB3 := hide (HOB2.out.below hba)
  have HQ3 := hide (HQ2.out.below hba HQ2.out.lt)
  clear hu hb2 HQ HQ1 HB0 HBU HOB hba
  rcases HU.out.shape with ⟨h0, rfl⟩ | ⟨h0, tt, x, rfl⟩
  · subst h0
    go_wp2_with fail
    refine (fa_Depth0 _).mono ?_
    rintro e w4 ⟨rfl, hb4⟩
    have HB4 := hide (below_step hb4 HB3.out)
    have HQ4 := hide (HQ3.out.below hb4 HQ3.out.lt)
    have HOB4 := hide (HOB3.out.below hb4)
    have v0 := (HB4.out.cell (lt_of_cell HV.out)).trans HV.out
    clear hb4
    go_wp2_with fail
    refine (jo_Append kd _ (HD.out.below HB4.out) (HS.out.below HB4.out) HDJ.out HOK.out HOB4.out.hn (by
      have h1 := HOB4.out.hn
      have h2 : b.length ≤ 960 := by
        rcases HBR.out with ⟨h, _⟩ | ⟨_, h | h⟩
        · exact absurd rfl h
        · rw [h.2.1]; simp
        · rw [h.2.1]; exact h.1
      omega) HOB4.out.sl HOP.out).mono ?_
    rintro e w5 ⟨ds', rfl, hJ5, hF5, hO5⟩
    have hO5' : Only (fun g => Fj g ∨ q.F g) w w5 := (Only.of_below HB4.out).trans hO5 (fun _ _ h => h)
    have HO5 := hide hO5'
    have HJ5 := hide hJ5
    have HF5 := hide hF5
    have HQ5 := hide (show Blk w5 P 145 #[.nilIface] from (hO5.block P HQ4.out.lt (by
      intro h
      have := (HFW.out P h).1
      rw [HP.out] at this
      omega)).trans HQ4.out)
    have HG5 := hide (HG.out.only hO5' (fun g h => (HFW.out g h).2))
    have H45 := hide (And.intro HB4.out.size hO5.size)
    clear hJ5 hF5 hO5 hO5' v0
    go_wp2_with fail
    refine (va_cause _ a _ HG5.out).mono ?_
    rintro e w6 ⟨u6, rfl, hu6, hb6⟩
    have q6 := HQ5.out.below hb6 HQ5.out.lt
    have c6 := q6.cell 0 (u := .nilIface) rfl
    have f6 := q6.frozen 0
    have HFIN : Hid (R0 (.returned (.agg #[u6])) (w6.setCell ⟨P, 0, none⟩ u6)) := hide (by
      rw [HR.out]
      have hPw : w.heap.size ≤ P := by rw [HP.out]; exact Nat.le_refl _
      have ho6 : Only (fun k => k = P) w6 (w6.setCell ⟨P, 0, none⟩ u6) := Only.set (fun k => k = P) (Only.refl _ w6) (p := P) (i := 0) rfl u6
      refine ⟨appJ J S kd b, ds', u6, ⟨b, 0, HBR.out, .inr ⟨rfl, rfl⟩⟩, rfl, CauV.only hu6 q6 ho6, ?_, ?_, ?_⟩
      · have h1 := (HJ5.out.below hb6).only ho6 (fun g hg e => by
          have hPw4 := HQ4.out.lt
          rcases hg with h | h
          · have := (HFW.out g (.inl h)).1
            omega
          · omega)
        exact h1.mono (fun g _ h => h.imp id (fun h => Nat.le_trans HB4.out.size h))
      · exact (HF5.out.below hb6).only ho6 (fun g hg e => by
          have := (HFW.out g (.inr hg)).1
          omega)
      · exact Only.setNew (HO5.out.step hb6) hPw _)
    have HQ6 := hide q6
    rcases hu6.shape with ⟨_, rfl⟩ | ⟨_, tt, x, rfl⟩
    · clear hu6 hb6
      go_wp2_with fail
      exact ret_fault rfl rfl (by rfl) (HQ6.out.set_ 0 _) HFIN.out
    · clear hu6 hb6
      go_wp2_with fail
      exact ret_fault rfl rfl (by rfl) (HQ6.out.set_ 0 _) HFIN.out
  · have hCh : Ch (w2.alloc (.cells #[.iface tt x] 145)) a (endV er) [codeV er] (.iface tt x) := by
      rcases HU3.out with ⟨h, _⟩ | ⟨_, h⟩
      · exact absurd h h0
      · exact h
    have HDP := hide (fa_Depth a M (endV er) [codeV er] (.iface tt x) _ (HG.out.below HB3.out) hCh (Nat.le_trans HM.out HB3.out.size) (by simp))
    rw [show (([codeV er].length : Nat) : Int) = 1 from rfl] at HDP
    have HNZ := hide h0
    clear hCh h0
    go_wp2_with fail
    refine HDP.out.mono ?_
    rintro e w4 ⟨rfl, hb4⟩
    have HB4 := hide (below_step hb4 HB3.out)
    have q4 := HQ3.out.below hb4 HQ3.out.lt
    have k9 := (blk_one w2 145 #[.iface tt x]).below hb4 (blk_one w2 145 #[.iface tt x]).lt
    have x9 := k9.cell 0 (u := .iface tt x) rfl
    have c4 := q4.cell 0 (u := .nilIface) rfl
    have f4 := q4.frozen 0
    have HFIN : Hid (R0 (.returned (.agg #[.iface tt x])) (w4.setCell ⟨P, 0, none⟩ (.iface tt x))) := hide (by
      rw [HR.out]
      have hPw : w.heap.size ≤ P := by rw [HP.out]; exact Nat.le_refl _
      have ho4 : Only (fun k => k = P) w4 (w4.setCell ⟨P, 0, none⟩ (.iface tt x)) := Only.set (fun k => k = P) (Only.refl _ w4) (p := P) (i := 0) rfl _
      refine ⟨(J, S, er), ds, .iface tt x, ⟨b, er, HBR.out, .inl ⟨HNZ.out, rfl⟩⟩, rfl, CauV.only (HU3.out.below hb4) q4 ho4, ?_, ?_, ?_⟩
      · have h1 := (HD.out.below HB4.out).only ho4 (fun g hg e => by
          have := (HFW.out g (.inl hg)).1
          omega)
        exact h1.mono (fun g _ h => .inl h)
      · exact (HS.out.below HB4.out).only ho4 (fun g hg e => by
          have := (HFW.out g (.inr hg)).1
          omega)
      · exact Only.setNew (Only.of_below HB4.out) hPw _)
    have HQ4 := hide q4
    clear hb4 q4 k9
    go_wp2_with fail
    exact ret_fault rfl rfl (by rfl) (HQ4.out.set_ 0 _) HFIN.out
end
end
end Go.Proofs.YtehabbnohoomjaaGreatDoor
namespace Go.Proofs.YtehabbnohoomjaaGreatDoor
section
set_option linter.unusedVariables false
set_option linter.unusedSimpArgs false
set_option linter.unnecessarySimpa false
open Go.RowKit Go.Extern.Stop Go.Stop Go.Extern
set_option maxRecDepth 20000
set_option maxHeartbeats 8000000

theorem isTxt_walk (a : Nat → Addr) (q : Nat) (t : List UInt8) (e : FEnd) (cs : List Nat) (v : Value) (w w0 : World) (hC : Ch w0 a e cs v) (h0 : Below w0.heap.size w0 w) (hq : Blk w q 182 #[.string (bs t)]) (hqn : w0.heap.size ≤ q) :
    Calls Tryz.prog 154 #[v, .iface 180 (.pointer (some ⟨q, 0, none⟩)), .bool true] w fun e' w' => e' = .returned (.bool (isT e t)) ∧ Below w.heap.size w w' := by
  obtain ⟨f, hf⟩ := ch_len w0 a e
  have HF := hide hf
  have HC := hide hC
  have H0 := hide h0
  have HQ := hide hq
  clear hf hC h0 hq
  go_enter Tryz.func154, Tryz.ntmps154
  go_wp2_with fail
  go_loopw [0, 6, 7, 8, 9, 10, 12, 13] (fun u _ _ _ _ _ _ _ wr => ∃ ds, Hid (Ch w0 a e ds u) ∧ Hid (Below w.heap.size w wr)) (fun u _ _ _ _ _ _ _ _ => f u)
  case atStart => exact ⟨cs, HC, hide (Below.refl _ _)⟩
  case round =>
    obtain ⟨ds, HCr, HBr⟩ := hrel
    have HB0 := hide (below_step HBr.out H0.out)
    cases ds with
    | cons c ds =>
      obtain ⟨p, u, rfl, hB, hU⟩ := HCr.out
      have HUN := hide (unwrap_any p c u wr (hB.below HB0.out hB.lt))
      have q1 := eq_lw (.pointer (some ⟨p, 0, none⟩)) (.pointer (some ⟨q, 0, none⟩))
      have t1 := ta_lnk_is (.pointer (some ⟨p, 0, none⟩))
      have t2 := ta_lnk_u (.pointer (some ⟨p, 0, none⟩))
      have m1 := m_unw (.pointer (some ⟨p, 0, none⟩))
      obtain ⟨tt, x, rfl⟩ := ch_iface hU
      have HU := hide hU
      clear hB hU
      go_wp2_with fail
      refine HUN.out.mono ?_
      rintro e w2 ⟨rfl, rfl⟩
      go_wp2_with fail
      go_roundw
      case rel => exact ⟨ds, HU, HBr⟩
      case measure => rw [HF.out _ _ HU.out, HF.out _ _ HCr.out]; simp
    | nil =>
      cases e with
      | sent n =>
        have hv : _ = _ := HCr.out
        subst hv
        obtain ⟨an, han⟩ : ∃ x, x = a n := ⟨_, rfl⟩
        rw [← han]
        have q1 := eq_sw' (.pointer (some an)) (.pointer (some ⟨q, 0, none⟩))
        have t1 := ta_str_is (.pointer (some an))
        have t2 := ta_str_u (.pointer (some an))
        have t3 := ta_str_us (.pointer (some an))
        clear han
        go_wp2_with fail
        go_ret
        exact ⟨rfl, HBr.out⟩
      | txt s =>
        obtain ⟨p, rfl, hB⟩ := HCr.out
        have hp2 := hB.below HB0.out hB.lt
        have hq2 := HQ.out.below HBr.out HQ.out.lt
        have hne : (⟨p, 0, none⟩ : Addr) ≠ ⟨q, 0, none⟩ := by intro e'; injection e' with e'; have := hB.lt; omega
        have q1 := eq_wn hne hp2 hq2
        have t1 := ta_wrd_is (.pointer (some ⟨p, 0, none⟩))
        have t2 := ta_wrd_u (.pointer (some ⟨p, 0, none⟩))
        have t3 := ta_wrd_us (.pointer (some ⟨p, 0, none⟩))
        have m1 := m_is (.pointer (some ⟨p, 0, none⟩))
        have HW := hide (wis_wrd p q s t wr hp2 hq2)
        obtain ⟨b, hb⟩ : ∃ b, b = decide (t = s) := ⟨_, rfl⟩
        have HR : Hid (isT (.txt s) t = b) := hide (by rw [hb]; rfl)
        rw [← hb] at HW
        clear hB hp2 hq2 hne hb
        go_wp2_with fail
        refine HW.out.mono ?_
        rintro e w2 ⟨rfl, hb2⟩
        have HB2 := hide (below_step hb2 HBr.out)
        clear hb2
        cases b
        · go_wp2_with fail
          go_ret
          exact ⟨ret_bool HR.out.symm, HB2.out⟩
        · go_wp2_with fail
          go_ret
          exact ⟨ret_bool HR.out.symm, HB2.out⟩
theorem fa_Says0 (t : List UInt8) (w : World) : Calls Tryz.prog 91 #[.agg #[.nilIface], .string (bs t)] w fun e w' => e = .returned (.bool false) ∧ Below w.heap.size w w' := by
  have HB := hide (below_alloc (Below.refl w.heap.size w) (.cells #[.nilIface] 145))
  go_enter Tryz.func91, Tryz.ntmps91
  go_wp2_with fail
  go_ret
  exact ⟨rfl, HB.out⟩
theorem eIs_txt (a : Nat → Addr) (q : Nat) (t : List UInt8) (e : FEnd) (cs : List Nat) (v : Value) (w w0 : World) (hC : Ch w0 a e cs v) (h0 : Below w0.heap.size w0 w) (hq : Blk w q 182 #[.string (bs t)]) (hqn : w0.heap.size ≤ q) :
    Calls Tryz.prog 130 #[v, .iface 180 (.pointer (some ⟨q, 0, none⟩))] w fun e' w' => e' = .returned (.bool (isT e t)) ∧ Below w.heap.size w w' := by
  have H := hide (isTxt_walk a q t e cs v w w0 hC h0 hq hqn)
  obtain ⟨tt, x, rfl⟩ := ch_iface hC
  have t1 := fun w => cf_typeof _ _ _ (ty_words (.pointer (some ⟨q, 0, none⟩)) w)
  have m1 := m_cmp (hdl 180)
  have c1 := fun w => cf_cmp _ _ w (cmp_w w)
  simp only [rvl, rty, hdl] at t1 m1 c1
  clear hC hq h0
  go_enter Tryz.func130, Tryz.ntmps130
  go_wp2_with fail
  refine H.out.mono ?_
  rintro e w2 ⟨rfl, hb2⟩
  have HB := hide hb2
  clear hb2
  go_wp2_with fail
  go_ret
  exact ⟨rfl, HB.out⟩
theorem fa_Says (a : Nat → Addr) (t : List UInt8) (e : FEnd) (cs : List Nat) (v : Value) (w : World) (hC : Ch w a e cs v) :
    Calls Tryz.prog 91 #[.agg #[v], .string (bs t)] w fun e' w' => e' = .returned (.bool (isT e t)) ∧ Below w.heap.size w w' := by
  have hb := below_alloc (below_alloc (Below.refl w.heap.size w) (.cells #[v] 145)) (.cells #[.string (bs t)] 182)
  have kk := blk_two w 145 182 #[v] #[.string (bs t)]
  have HI := hide (eIs_txt a (w.heap.size + 1) t e cs v _ w hC hb kk.2 (by omega))
  have HB := hide hb
  obtain ⟨b, hbb⟩ : ∃ b, b = isT e t := ⟨_, rfl⟩
  rw [← hbb] at HI ⊢
  obtain ⟨tt, x, rfl⟩ := ch_iface hC
  clear hC hb kk hbb
  go_enter Tryz.func91, Tryz.ntmps91
  go_wp2_with fail
  refine HI.out.mono ?_
  rintro e' w2 ⟨rfl, hb2⟩
  have HB2 := hide (below_step hb2 HB.out)
  clear hb2
  go_wp2_with fail
  go_ret
  exact ⟨rfl, HB2.out⟩
end
end Go.Proofs.YtehabbnohoomjaaGreatDoor

/- Package vault: cause. -/
import Derived.Test.YtehabbnohoomjaaGreatDoorC18
namespace Go.Proofs.YtehabbnohoomjaaGreatDoor
section
set_option linter.unusedVariables false
set_option linter.unusedSimpArgs false
set_option linter.unnecessarySimpa false
open Go.RowKit Go.Extern.Stop Go.Stop Go.Extern
set_option maxRecDepth 20000
set_option maxHeartbeats 8000000

def offT : List UInt8 := [116, 104, 101, 32, 112, 111, 119, 101, 114, 32, 105, 115, 32, 111, 102, 102]
def wornT : List UInt8 := [110, 111, 32, 115, 101, 99, 116, 111, 114, 32, 98, 101, 97, 114, 115, 32, 105, 116]
def codeV (e : Int) : Nat := if e = 0 then 0 else if e = 7 ∨ e = 10 ∨ e = 6 then 101056512 else if e = 3 then 84148229 else 100925511
def endV (e : Int) : FEnd := if e = 7 then .txt offT else if e = 10 ∨ e = 6 then .txt wornT else .sent (famN (codeV e))
/-- what stands in the fault -/
def CauV (w : World) (a : Nat → Addr) (e : Int) (u : Value) : Prop := (e = 0 ∧ u = .nilIface) ∨ (e ≠ 0 ∧ Ch w a (endV e) [codeV e] u)
def CauseR (a : Nat → Addr) (e : Int) (w : World) (E : Ending) (w' : World) : Prop := ∃ u, E = .returned (.agg #[u]) ∧ CauV w' a e u ∧ Below w.heap.size w w'
theorem CauV.below {w w' : World} {a : Nat → Addr} {e : Int} {u : Value} (h : CauV w a e u) (hb : Below w.heap.size w w') : CauV w' a e u := h.elim .inl (fun h => .inr ⟨h.1, Ch.below hb h.2⟩)
theorem CauV.only {w w' : World} {a : Nat → Addr} {e : Int} {u : Value} {g : Nat} {xs : Array Value} (h : CauV w a e u) (hB : Blk w g 145 xs) (ho : Only (fun k => k = g) w w') : CauV w' a e u := h.elim .inl (fun h => .inr ⟨h.1, Ch.only1 hB (by decide) (by decide) ho h.2⟩)
theorem CauV.shape {w : World} {a : Nat → Addr} {e : Int} {u : Value} (h : CauV w a e u) : (e = 0 ∧ u = .nilIface) ∨ (e ≠ 0 ∧ ∃ tt x, u = .iface tt x) := h.elim .inl (fun h => .inr ⟨h.1, ch_iface h.2⟩)
theorem va_cause (e : Int) (a : Nat → Addr) (w : World) {M : Nat} (hG : GV w a M) : Calls Tryz.prog 133 #[.int .i64 e] w (CauseR a e w) := by
  have q0 := blk_one w 145 #[.nilIface]
  have hb0 := below_alloc (Below.refl w.heap.size w) (.cells #[.nilIface] 145)
  obtain ⟨W0, hW0⟩ : ∃ W, W = w.alloc (.cells #[.nilIface] 145) := ⟨_, rfl⟩
  rw [← hW0] at q0 hb0
  have hG0 := hG.below hb0
  have HO := hide (fa_Of 101056512 a offT W0 (by decide))
  have HW := hide (fa_Of 101056512 a wornT W0 (by decide))
  have HM := hide (fa_New 84148229 a W0 (by decide) hG0)
  have HI := hide (fa_New 100925511 a W0 (by decide) hG0)
  rw [show cntN 101056512 = 101056512 from rfl, show bs offT = (⟨#[116, 104, 101, 32, 112, 111, 119, 101, 114, 32, 105, 115, 32, 111, 102, 102]⟩ : ByteArray) from rfl] at HO
  rw [show cntN 101056512 = 101056512 from rfl, show bs wornT = (⟨#[110, 111, 32, 115, 101, 99, 116, 111, 114, 32, 98, 101, 97, 114, 115, 32, 105, 116]⟩ : ByteArray) from rfl] at HW
  rw [show cntN 84148229 = 84148229 from rfl] at HM
  rw [show cntN 100925511 = 100925511 from rfl] at HI
  have HQ := hide q0
  have HB := hide hb0
  have HW0 := hide hW0
  obtain ⟨P, hP⟩ : ∃ P, P = w.heap.size := ⟨_, rfl⟩
  rw [← hP] at HQ
  have HP := hide hP
  have c0 := HQ.out.cell 0 (u := .nilIface) rfl
  have f0 := HQ.out.frozen 0
  have fin : ∀ (u : Value) (w1 : World) (E : FEnd) (c : Nat), Ch w1 a E [c] u → Below W0.heap.size W0 w1 → e ≠ 0 → endV e = E → codeV e = c → CauseR a e w (.returned (.agg #[u])) (w1.setCell ⟨P, 0, none⟩ u) := by
    intro u w1 E c hC hb h0 hE hc
    subst hE hc
    have q1 := HQ.out.below hb HQ.out.lt
    refine ⟨u, rfl, ?_, below_set (below_step hb HB.out) (p := ⟨P, 0, none⟩) (by rw [HP.out]; exact Nat.le_refl _) _⟩
    exact CauV.only (.inr ⟨h0, hC⟩) q1 (Only.set (fun k => k = P) (Only.refl _ w1) (p := P) (i := 0) rfl u)
  have HFIN := hide fin
  clear hG hG0 q0 hb0 hW0 hP fin
  by_cases h0 : e = 0
  · subst h0
    have HZ := hide (show CauseR a 0 w (.returned (.agg #[.nilIface])) W0 from ⟨.nilIface, rfl, .inl ⟨rfl, rfl⟩, HB.out⟩)
    go_enter Tryz.func133, Tryz.ntmps133
    go_wp2_with fail
    rw [← HW0.out, ← HP.out]
    exact ret_fault rfl rfl (by rfl) HQ.out HZ.out
  by_cases h7 : e = 7
  · subst h7
    clear h0
    go_enter Tryz.func133, Tryz.ntmps133
    go_wp2_with fail
    rw [← HW0.out, ← HP.out]
    refine HO.out.mono ?_
    rintro e w1 ⟨u, rfl, hC, hb⟩
    obtain ⟨tt, x, rfl⟩ := ch_iface hC
    have q1 := HQ.out.below hb HQ.out.lt
    have c1 := q1.cell 0 (u := .nilIface) rfl
    have f1 := q1.frozen 0
    have HF := hide (HFIN.out _ w1 _ _ hC hb (by decide) rfl rfl)
    clear hC hb c0 f0
    go_wp2_with fail
    exact ret_fault rfl rfl (by rfl) (q1.set_ 0 _) HF.out
  by_cases h10 : e = 10
  · subst h10
    clear h0 h7
    go_enter Tryz.func133, Tryz.ntmps133
    go_wp2_with fail
    rw [← HW0.out, ← HP.out]
    refine HW.out.mono ?_
    rintro e w1 ⟨u, rfl, hC, hb⟩
    obtain ⟨tt, x, rfl⟩ := ch_iface hC
    have q1 := HQ.out.below hb HQ.out.lt
    have c1 := q1.cell 0 (u := .nilIface) rfl
    have f1 := q1.frozen 0
    have HF := hide (HFIN.out _ w1 _ _ hC hb (by decide) rfl rfl)
    clear hC hb c0 f0
    go_wp2_with fail
    exact ret_fault rfl rfl (by rfl) (q1.set_ 0 _) HF.out
  by_cases h6 : e = 6
  · subst h6
    clear h0 h7 h10
    go_enter Tryz.func133, Tryz.ntmps133
    go_wp2_with fail
    rw [← HW0.out, ← HP.out]
    refine HW.out.mono ?_
    rintro e w1 ⟨u, rfl, hC, hb⟩
    obtain ⟨tt, x, rfl⟩ := ch_iface hC
    have q1 := HQ.out.below hb HQ.out.lt
    have c1 := q1.cell 0 (u := .nilIface) rfl
    have f1 := q1.frozen 0
    have HF := hide (HFIN.out _ w1 _ _ hC hb (by decide) rfl rfl)
    clear hC hb c0 f0
    go_wp2_with fail
    exact ret_fault rfl rfl (by rfl) (q1.set_ 0 _) HF.out
  by_cases h3 : e = 3
  · subst h3
    clear h0 h7 h10 h6
    go_enter Tryz.func133, Tryz.ntmps133
    go_wp2_with fail
    rw [← HW0.out, ← HP.out]
    refine HM.out.mono ?_
    rintro e w1 ⟨u, rfl, hC, hb⟩
    obtain ⟨tt, x, rfl⟩ := ch_iface hC
    have q1 := HQ.out.below hb HQ.out.lt
    have c1 := q1.cell 0 (u := .nilIface) rfl
    have f1 := q1.frozen 0
    have HF := hide (HFIN.out _ w1 _ _ hC hb (by decide) rfl rfl)
    clear hC hb c0 f0
    go_wp2_with fail
    exact ret_fault rfl rfl (by rfl) (q1.set_ 0 _) HF.out
  have g0 : (e == 0) = false := by simpa using h0
  have g7 : (e == 7) = false := by simpa using h7
  have g10 : (e == 10) = false := by simpa using h10
  have g6 : (e == 6) = false := by simpa using h6
  have g3 : (e == 3) = false := by simpa using h3
  have HE := hide (show e ≠ 0 ∧ endV e = .sent (famN 100925511) ∧ codeV e = 100925511 from by
    have hc : codeV e = 100925511 := by unfold codeV; rw [if_neg h0, if_neg (by omega), if_neg h3]
    refine ⟨h0, ?_, hc⟩
    unfold endV
    rw [if_neg h7, if_neg (by omega), hc])
  clear h0 h7 h10 h6 h3
  go_enter Tryz.func133, Tryz.ntmps133
  go_wp2_with fail
  rw [← HW0.out, ← HP.out]
  refine HI.out.mono ?_
  rintro e w1 ⟨u, rfl, hC, hb⟩
  obtain ⟨tt, x, rfl⟩ := ch_iface hC
  have q1 := HQ.out.below hb HQ.out.lt
  have c1 := q1.cell 0 (u := .nilIface) rfl
  have f1 := q1.frozen 0
  have HF := hide (HFIN.out _ w1 _ _ hC hb HE.out.1 HE.out.2.1 HE.out.2.2)
  clear hC hb c0 f0
  go_wp2_with fail
  exact ret_fault rfl rfl (by rfl) (q1.set_ 0 _) HF.out
end
end Go.Proofs.YtehabbnohoomjaaGreatDoor
namespace Go.Proofs.YtehabbnohoomjaaGreatDoor
section
set_option linter.unusedVariables false
set_option linter.unusedSimpArgs false
set_option linter.unnecessarySimpa false
open Go.RowKit Go.Extern.Stop Go.Stop Go.Extern
set_option maxRecDepth 20000
set_option maxHeartbeats 8000000

theorem dep_one (c g : Nat) (n : Nat) (w : World) (hB : Blk w g 3 #[.int .i64 (n : Nat)]) (hn : n ≤ 1000000) :
    Calls Tryz.prog 129 #[.int .u32 (c : Nat), .pointer (some ⟨g, 0, none⟩)] w fun e w' => e = .returned (.tuple #[]) ∧ Blk w' g 3 #[.int .i64 ((n + 1 : Nat) : Int)] ∧ Only (fun k => k = g) w w' := by
  have c0 := hB.cell 0 (u := .int .i64 (n : Nat)) rfl
  have f0 := hB.frozen 0
  have HB := hide hB
  have HO := hide (Only.set (fun k => k = g) (Only.refl _ w) (p := g) (i := 0) rfl (.int .i64 ((n : Int) + 1)))
  clear hB
  go_enter Tryz.func129, Tryz.ntmps129
  go_wp2_with fail
  go_end0
  refine ⟨rfl, ?_, HO.out⟩
  rw [show (((n + 1 : Nat)) : Int) = (n : Int) + 1 by omega]
  exact HB.out.set_ 0 _
def anyC (x : Nat) (b : Bool) (cs : List Nat) : Bool := b || cs.any (fun c => decide (c = x))
theorem each_depth (a : Nat → Addr) (M : Nat) (e : FEnd) (cs : List Nat) (v : Value) (g : Nat) (n0 : Nat) (w : World) (hG : GV w a M) (hC : Ch w a e cs v) (hM : M ≤ g) (hB : Blk w g 3 #[.int .i64 (n0 : Nat)]) (hn : n0 = 0) (hl : cs.length ≤ 1000) :
    Calls Tryz.prog 128 #[.agg #[v], .func (.func 129) #[] #[.pointer (some ⟨g, 0, none⟩)]] w fun e' w' => e' = .returned (.tuple #[]) ∧ Blk w' g 3 #[.int .i64 (cs.length : Nat)] ∧ Only (fun k => k = g) w w' := by
  obtain ⟨tt, xv, rfl⟩ := ch_iface hC
  obtain ⟨f, hf⟩ := ch_len w a e
  have HF := hide hf
  have hb := below_alloc (below_alloc (Below.refl w.heap.size w) (.cells #[.iface tt xv] 145)) (.cells #[.pointer none] 183)
  have kk := blk_two w 145 183 #[.iface tt xv] #[.pointer none]
  obtain ⟨b, hbb⟩ : ∃ b, b = w.heap.size + 1 := ⟨_, rfl⟩
  have HBB := hide hbb
  rw [← hbb] at kk
  have zg := hB.lt
  have hgb : ¬ g = b := by omega
  have HG := hide hG
  have HC := hide hC
  have HM := hide hM
  have HB0 := hide hB
  have HB1 := hide (hB.below hb hB.lt)
  have HK := hide kk.2
  have HO := hide (Only.of_below (F := fun k => k = g) hb)
  have HN := hide (And.intro hn hl)
  clear hf hG hC hM hB hb kk hbb hn hl
  go_enter Tryz.func128, Tryz.ntmps128
  go_wp2_with fail
  rw [← HBB.out]
  go_loopw [5] (fun u wr => ∃ ds l k, Hid (Ch w a e ds u) ∧ Hid (Only (fun k => k = g) w wr) ∧ Hid (Blk wr b 183 #[l]) ∧ Hid (Blk wr g 3 #[.int .i64 (k : Nat)]) ∧ Hid (k + ds.length = cs.length)) (fun u _ => f u)
  case atStart => exact ⟨cs, _, n0, HC, HO, HK, HB1, hide (by rw [HN.out.1]; omega)⟩
  case round =>
    obtain ⟨ds, l, k, HCr, HOr, HL, HBr, HRr⟩ := hrel
    have HGr := hide (HG.out.only HOr.out (fun k hk => by have := HM.out; omega))
    cases ds with
    | nil =>
      obtain rfl : k = cs.length := by have := HRr.out; simpa using this
      have hcr := HCr.out
      cases e with
      | sent n =>
        have hv : u5 = _ := hcr
        subst hv
        have HAS := hide (eAs_str_l (a n) b wr HGr.out.et)
        clear hcr
        go_wp2_with fail
        refine HAS.out.mono ?_
        rintro e' w2 ⟨rfl, hb2⟩
        have HW := hide (And.intro (HBr.out.below hb2 HBr.out.lt) (HOr.out.step hb2))
        clear hb2
        go_wp2_with fail
        go_end0
        exact ⟨rfl, HW.out.1, HW.out.2⟩
      | txt t =>
        obtain ⟨p, hv, hp⟩ := hcr
        subst hv
        have HAS := hide (eAs_wrd_l ⟨p, 0, none⟩ b wr HGr.out.et)
        clear hp
        go_wp2_with fail
        refine HAS.out.mono ?_
        rintro e' w2 ⟨rfl, hb2⟩
        have HW := hide (And.intro (HBr.out.below hb2 HBr.out.lt) (HOr.out.step hb2))
        clear hb2
        go_wp2_with fail
        go_end0
        exact ⟨rfl, HW.out.1, HW.out.2⟩
    | cons c ds =>
      obtain ⟨p, u, hv, hp, hU⟩ := HCr.out
      subst hv
      have hzp := hp.lt
      have hpg : ¬ p = g := by
        intro e'
        have h1 := HB0.out
        rw [← e'] at h1
        have h2 := h1.symm.trans hp
        injection h2 with h2
        injection h2 with _ h2
        exact absurd h2 (by decide)
      have hpb : ¬ p = b := by have := HBB.out; omega
      have hpr : Blk wr p 187 #[.int .u32 (c : Nat), u] := (HOr.out.block p hzp hpg).trans hp
      have HAS := hide (eAs_link p b l wr HL.out HGr.out.et)
      have HPR := hide hpr
      have HU := hide hU
      have HMS : Hid (f u < f (.iface 183 (.pointer (some ⟨p, 0, none⟩)))) := hide (by rw [HF.out _ _ hU, HF.out _ _ HCr.out]; simp)
      obtain ⟨t2, x2, rfl⟩ := ch_iface hU
      clear hp hU hpr
      go_wp2_with fail
      refine HAS.out.mono ?_
      rintro e' w2 ⟨rfl, hL2, hO2⟩
      have hp2 : Blk w2 p 187 #[.int .u32 (c : Nat), .iface t2 x2] := (hO2.block p HPR.out.lt hpb).trans HPR.out
      have hg2 : Blk w2 g 3 #[.int .i64 (k : Nat)] := (hO2.block g HBr.out.lt hgb).trans HBr.out
      have hO02 : Only (fun k => k = g) w w2 := HOr.out.trans hO2 (fun i hi h => by have := HBB.out; omega)
      have l0 := hL2.cell 0 (u := .pointer (some ⟨p, 0, none⟩)) rfl
      have p0 := hp2.cell 0 (u := .int .u32 (c : Nat)) rfl
      have HCL := hide (dep_one c g k w2 hg2 (by have h1 := HRr.out; have h2 := HN.out.2; rw [List.length_cons] at h1; omega))
      have HP2 := hide hp2
      have HL2 := hide hL2
      have HO02 := hide hO02
      clear hL2 hO2 hp2 hg2 hO02
      go_wp2_with fail
      refine HCL.out.mono ?_
      rintro e' w3 ⟨rfl, hg3, hO3⟩
      have hp3 : Blk w3 p 187 #[.int .u32 (c : Nat), .iface t2 x2] := (hO3.block p HP2.out.lt hpg).trans HP2.out
      have hL3 : Blk w3 b 183 #[.pointer (some ⟨p, 0, none⟩)] := (hO3.block b HL2.out.lt (fun e' => hgb e'.symm)).trans HL2.out
      have l3 := hL3.cell 0 (u := .pointer (some ⟨p, 0, none⟩)) rfl
      have p3 := hp3.cell 1 (u := .iface t2 x2) rfl
      have HL3 := hide hL3
      have HG3 := hide hg3
      have HO3 := hide (HO02.out.trans hO3 (fun _ _ h => h))
      clear hg3 hO3 hp3 hL3 l0 p0
      go_wp2_with fail
      go_roundw
      case rel => exact ⟨ds, _, k + 1, HU, HO3, HL3, HG3, hide (by have h1 := HRr.out; rw [List.length_cons] at h1; omega)⟩
      case measure => exact HMS.out
end
end Go.Proofs.YtehabbnohoomjaaGreatDoor
namespace Go.Proofs.YtehabbnohoomjaaGreatDoor
section
set_option linter.unusedVariables false
set_option linter.unusedSimpArgs false
set_option linter.unnecessarySimpa false
open Go.RowKit Go.Extern.Stop Go.Stop Go.Extern
set_option maxRecDepth 20000
set_option maxHeartbeats 8000000

theorem each_nil (F : Value) (w : World) : Calls Tryz.prog 128 #[.agg #[.nilIface], F] w fun e w' => e = .returned (.tuple #[]) ∧ Below w.heap.size w w' := by
  have HB := hide (below_alloc (below_alloc (Below.refl w.heap.size w) (.cells #[.nilIface] 145)) (.cells #[.pointer none] 183))
  go_enter Tryz.func128, Tryz.ntmps128
  go_wp2_with fail
  refine wp_loop_rounds 1 ?_
  rw [rounds_succ]
  go_wp2_with fail
  go_end0
  exact ⟨rfl, HB.out⟩
theorem fa_Depth (a : Nat → Addr) (M : Nat) (e : FEnd) (cs : List Nat) (v : Value) (w : World) (hG : GV w a M) (hC : Ch w a e cs v) (hM : M ≤ w.heap.size) (hl : cs.length ≤ 1000) :
    Calls Tryz.prog 90 #[.agg #[v]] w fun e' w' => e' = .returned (.int .i64 (cs.length : Nat)) ∧ Below w.heap.size w w' := by
  have hb := below_alloc (below_alloc (Below.refl w.heap.size w) (.cells #[v] 145)) (.cells #[.int .i64 0] 3)
  have kk := blk_two w 145 3 #[v] #[.int .i64 0]
  have HE := hide (each_depth a M e cs v (w.heap.size + 1) 0 _ (hG.below hb) (hC.below hb) (by omega) kk.2 rfl hl)
  have HB := hide hb
  obtain ⟨n, hn⟩ : ∃ n, n = cs.length := ⟨_, rfl⟩
  rw [← hn] at HE ⊢
  obtain ⟨tt, x, rfl⟩ := ch_iface hC
  clear hG hC hb kk hn hl
  go_enter Tryz.func90, Tryz.ntmps90
  go_wp2_with fail
  refine HE.out.mono ?_
  rintro e' w2 ⟨rfl, hg, hO⟩
  have g0 := hg.cell 0 (u := .int .i64 (n : Nat)) rfl
  have HB2 := hide (below_only hO HB.out (fun i hi => by omega))
  clear hg hO
  go_wp2_with fail
  go_ret
  exact ⟨rfl, HB2.out⟩
theorem fa_Depth0 (w : World) : Calls Tryz.prog 90 #[.agg #[.nilIface]] w fun e w' => e = .returned (.int .i64 0) ∧ Below w.heap.size w w' := by
  have hb := below_alloc (below_alloc (Below.refl w.heap.size w) (.cells #[.nilIface] 145)) (.cells #[.int .i64 0] 3)
  have kk := blk_two w 145 3 #[.nilIface] #[.int .i64 0]
  have HK := hide kk.2
  have HB := hide hb
  clear hb kk
  go_enter Tryz.func90, Tryz.ntmps90
  go_wp2_with fail
  refine (each_nil _ _).mono ?_
  rintro e' w2 ⟨rfl, hb2⟩
  have g0 := (HK.out.below hb2 (by simp)).cell 0 (u := .int .i64 0) rfl
  have HB2 := hide (below_step hb2 HB.out)
  clear hb2
  go_wp2_with fail
  go_ret
  exact ⟨rfl, HB2.out⟩
end
end Go.Proofs.YtehabbnohoomjaaGreatDoor

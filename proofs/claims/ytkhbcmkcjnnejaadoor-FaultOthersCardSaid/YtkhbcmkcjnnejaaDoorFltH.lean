/- Package fault: each, Depth, Has. -/
import Derived.Test.YtkhbcmkcjnnejaaDoorFltG
namespace Go.Proofs.YtkhbcmkcjnnejaaDoor
set_option linter.unusedVariables false
set_option linter.unusedSimpArgs false
set_option linter.unnecessarySimpa false
open Go.RowKit Go.Extern.Stop Go.Stop Go.Extern
set_option maxRecDepth 20000
set_option maxHeartbeats 8000000

theorem dep_one (c g : Nat) (n : Nat) (w : World) (hB : Blk w g 3 #[.int .i64 (n : Nat)]) (hn : n ≤ 1000000) :
    Calls Tryd.prog 32 #[.int .u32 (c : Nat), .pointer (some ⟨g, 0, none⟩)] w fun e w' => e = .returned (.tuple #[]) ∧ Blk w' g 3 #[.int .i64 ((n + 1 : Nat) : Int)] ∧ Only (fun k => k = g) w w' := by
  have c0 := hB.cell 0 (u := .int .i64 (n : Nat)) rfl
  have f0 := hB.frozen 0
  have HB := hide hB
  have HO := hide (Only.set (fun k => k = g) (Only.refl _ w) (p := g) (i := 0) rfl (.int .i64 ((n : Int) + 1)))
  clear hB
  go_enter Tryd.func32, Tryd.ntmps32
  go_wp2_with fail
  go_end0
  refine ⟨rfl, ?_, HO.out⟩
  rw [show (((n + 1 : Nat)) : Int) = (n : Int) + 1 by omega]
  exact HB.out.set_ 0 _
theorem has_one (c g h x : Nat) (b : Bool) (w : World) (hB : Blk w g 4 #[.bool b]) (hC : Blk w h 23 #[.int .u32 (x : Nat)]) :
    Calls Tryd.prog 27 #[.int .u32 (c : Nat), .pointer (some ⟨g, 0, none⟩), .pointer (some ⟨h, 0, none⟩)] w fun e w' => e = .returned (.tuple #[]) ∧ Blk w' g 4 #[.bool (b || decide (c = x))] ∧ Only (fun k => k = g) w w' := by
  have c0 := hB.cell 0 (u := .bool b) rfl
  have c1 := hC.cell 0 (u := .int .u32 (x : Nat)) rfl
  have f0 := hB.frozen 0
  have HB := hide hB
  clear hB hC
  cases b
  · by_cases hx : c = x
    · subst hx
      have HO := hide (Only.set (fun k => k = g) (Only.refl _ w) (p := g) (i := 0) rfl (.bool true))
      go_enter Tryd.func27, Tryd.ntmps27
      go_wp2_with fail
      go_end0
      exact ⟨rfl, by simp; exact HB.out.set_ 0 _, HO.out⟩
    · have e1 : ((c : Int) == (x : Int)) = false := by simp; omega
      have HD := hide (show decide (c = x) = false by simpa using hx)
      have HO := hide (Only.set (fun k => k = g) (Only.refl _ w) (p := g) (i := 0) rfl (.bool false))
      clear hx
      go_enter Tryd.func27, Tryd.ntmps27
      go_wp2_with fail
      go_end0
      exact ⟨rfl, by rw [HD.out]; exact HB.out.set_ 0 _, HO.out⟩
  · have HO := hide (Only.set (fun k => k = g) (Only.refl _ w) (p := g) (i := 0) rfl (.bool true))
    go_enter Tryd.func27, Tryd.ntmps27
    go_wp2_with fail
    go_end0
    exact ⟨rfl, HB.out.set_ 0 _, HO.out⟩
def anyC (x : Nat) (b : Bool) (cs : List Nat) : Bool := b || cs.any (fun c => decide (c = x))
theorem anyC_cons (x : Nat) (b : Bool) (c : Nat) (cs : List Nat) : anyC x (b || decide (c = x)) cs = anyC x b (c :: cs) := by simp [anyC, Bool.or_assoc]

theorem each_depth (a : Nat → Addr) (M : Nat) (e : FEnd) (cs : List Nat) (v : Value) (g : Nat) (n0 : Nat) (w : World) (hG : GV w a M) (hC : Ch w a e cs v) (hM : M ≤ g) (hB : Blk w g 3 #[.int .i64 (n0 : Nat)]) (hn : n0 = 0) (hl : cs.length ≤ 1000) :
    Calls Tryd.prog 26 #[.agg #[v], .func (.func 32) #[] #[.pointer (some ⟨g, 0, none⟩)]] w fun e' w' => e' = .returned (.tuple #[]) ∧ Blk w' g 3 #[.int .i64 (cs.length : Nat)] ∧ Only (fun k => k = g) w w' := by
  obtain ⟨tt, xv, rfl⟩ := ch_iface hC
  obtain ⟨f, hf⟩ := ch_len w a e
  have HF := hide hf
  have hb := below_alloc (below_alloc (Below.refl w.heap.size w) (.cells #[.iface tt xv] 28)) (.cells #[.pointer none] 48)
  have kk := blk_two w 28 48 #[.iface tt xv] #[.pointer none]
  obtain ⟨b, hbb⟩ : ∃ b, b = w.heap.size + 1 := ⟨_, rfl⟩
  have HBB := hide hbb
  rw [← hbb] at kk
  have zg := hB.lt
  have hgb : ¬ g = b := by omega
  have HG := hide hG
  have HC := hide hC
  have HM := hide hM
  have HB0 := hide hB
  have HB1 := hide (hB.below hb hB.lt)
  have HK := hide kk.2
  have HO := hide (Only.of_below (F := fun k => k = g) hb)
  have HN := hide (And.intro hn hl)
  clear hf hG hC hM hB hb kk hbb hn hl
  go_enter Tryd.func26, Tryd.ntmps26
  go_wp2_with fail
  rw [← HBB.out]
  go_loopw [5] (fun u wr => ∃ ds l k, Hid (Ch w a e ds u) ∧ Hid (Only (fun k => k = g) w wr) ∧ Hid (Blk wr b 48 #[l]) ∧ Hid (Blk wr g 3 #[.int .i64 (k : Nat)]) ∧ Hid (k + ds.length = cs.length)) (fun u _ => f u)
  case atStart => exact ⟨cs, _, n0, HC, HO, HK, HB1, hide (by rw [HN.out.1]; omega)⟩
  case round =>
    obtain ⟨ds, l, k, HCr, HOr, HL, HBr, HRr⟩ := hrel
    have HGr := hide (HG.out.only HOr.out (fun k hk => by have := HM.out; omega))
    cases ds with
    | nil =>
      obtain rfl : k = cs.length := by have := HRr.out; simpa using this
      have hcr := HCr.out
      cases e with
      | sent n =>
        have hv : u5 = _ := hcr
        subst hv
        have HAS := hide (eAs_str_l (a n) b wr HGr.out.et)
        clear hcr
        go_wp2_with fail
        refine HAS.out.mono ?_
        rintro e' w2 ⟨rfl, hb2⟩
        have HW := hide (And.intro (HBr.out.below hb2 HBr.out.lt) (HOr.out.step hb2))
        clear hb2
        go_wp2_with fail
        go_end0
        exact ⟨rfl, HW.out.1, HW.out.2⟩
      | txt t =>
        obtain ⟨p, hv, hp⟩ := hcr
        subst hv
        have HAS := hide (eAs_wrd_l ⟨p, 0, none⟩ b wr HGr.out.et)
        clear hp
        go_wp2_with fail
        refine HAS.out.mono ?_
        rintro e' w2 ⟨rfl, hb2⟩
        have HW := hide (And.intro (HBr.out.below hb2 HBr.out.lt) (HOr.out.step hb2))
        clear hb2
        go_wp2_with fail
        go_end0
        exact ⟨rfl, HW.out.1, HW.out.2⟩
    | cons c ds =>
      obtain ⟨p, u, hv, hp, hU⟩ := HCr.out
      subst hv
      have hzp := hp.lt
      have hpg : ¬ p = g := by
        intro e'
        have h1 := HB0.out
        rw [← e'] at h1
        have h2 := h1.symm.trans hp
        injection h2 with h2
        injection h2 with _ h2
        exact absurd h2 (by decide)
      have hpb : ¬ p = b := by have := HBB.out; omega
      have hpr : Blk wr p 52 #[.int .u32 (c : Nat), u] := (HOr.out.block p hzp hpg).trans hp
      have HAS := hide (eAs_link p b l wr HL.out HGr.out.et)
      have HPR := hide hpr
      have HU := hide hU
      have HMS : Hid (f u < f (.iface 48 (.pointer (some ⟨p, 0, none⟩)))) := hide (by rw [HF.out _ _ hU, HF.out _ _ HCr.out]; simp)
      obtain ⟨t2, x2, rfl⟩ := ch_iface hU
      clear hp hU hpr
      go_wp2_with fail
      refine HAS.out.mono ?_
      rintro e' w2 ⟨rfl, hL2, hO2⟩
      have hp2 : Blk w2 p 52 #[.int .u32 (c : Nat), .iface t2 x2] := (hO2.block p HPR.out.lt hpb).trans HPR.out
      have hg2 : Blk w2 g 3 #[.int .i64 (k : Nat)] := (hO2.block g HBr.out.lt hgb).trans HBr.out
      have hO02 : Only (fun k => k = g) w w2 := HOr.out.trans hO2 (fun i hi h => by have := HBB.out; omega)
      have l0 := hL2.cell 0 (u := .pointer (some ⟨p, 0, none⟩)) rfl
      have p0 := hp2.cell 0 (u := .int .u32 (c : Nat)) rfl
      have HCL := hide (dep_one c g k w2 hg2 (by have h1 := HRr.out; have h2 := HN.out.2; rw [List.length_cons] at h1; omega))
      have HP2 := hide hp2
      have HL2 := hide hL2
      have HO02 := hide hO02
      clear hL2 hO2 hp2 hg2 hO02
      go_wp2_with fail
      refine HCL.out.mono ?_
      rintro e' w3 ⟨rfl, hg3, hO3⟩
      have hp3 : Blk w3 p 52 #[.int .u32 (c : Nat), .iface t2 x2] := (hO3.block p HP2.out.lt hpg).trans HP2.out
      have hL3 : Blk w3 b 48 #[.pointer (some ⟨p, 0, none⟩)] := (hO3.block b HL2.out.lt (fun e' => hgb e'.symm)).trans HL2.out
      have l3 := hL3.cell 0 (u := .pointer (some ⟨p, 0, none⟩)) rfl
      have p3 := hp3.cell 1 (u := .iface t2 x2) rfl
      have HL3 := hide hL3
      have HG3 := hide hg3
      have HO3 := hide (HO02.out.trans hO3 (fun _ _ h => h))
      clear hg3 hO3 hp3 hL3 l0 p0
      go_wp2_with fail
      go_roundw
      case rel => exact ⟨ds, _, k + 1, HU, HO3, HL3, HG3, hide (by have h1 := HRr.out; rw [List.length_cons] at h1; omega)⟩
      case measure => exact HMS.out

theorem each_has (a : Nat → Addr) (M : Nat) (e : FEnd) (cs : List Nat) (v : Value) (g h x : Nat) (b0 : Bool) (w : World) (hG : GV w a M) (hC : Ch w a e cs v) (hM : M ≤ g) (hB : Blk w g 4 #[.bool b0]) (hH : Blk w h 23 #[.int .u32 (x : Nat)]) :
    Calls Tryd.prog 26 #[.agg #[v], .func (.func 27) #[] #[.pointer (some ⟨g, 0, none⟩), .pointer (some ⟨h, 0, none⟩)]] w fun e' w' => e' = .returned (.tuple #[]) ∧ Blk w' g 4 #[.bool (anyC x b0 cs)] ∧ Only (fun k => k = g) w w' := by
  obtain ⟨tt, xv, rfl⟩ := ch_iface hC
  obtain ⟨f, hf⟩ := ch_len w a e
  have HF := hide hf
  have hb := below_alloc (below_alloc (Below.refl w.heap.size w) (.cells #[.iface tt xv] 28)) (.cells #[.pointer none] 48)
  have kk := blk_two w 28 48 #[.iface tt xv] #[.pointer none]
  obtain ⟨b, hbb⟩ : ∃ b, b = w.heap.size + 1 := ⟨_, rfl⟩
  have HBB := hide hbb
  rw [← hbb] at kk
  have zg := hB.lt
  have hgb : ¬ g = b := by omega
  have HG := hide hG
  have HC := hide hC
  have HM := hide hM
  have HB0 := hide hB
  have HB1 := hide (hB.below hb hB.lt)
  have HK := hide kk.2
  have HO := hide (Only.of_below (F := fun k => k = g) hb)
  have hgh : ¬ h = g := by
    intro e'
    rw [e'] at hH
    have h2 := HB0.out.symm.trans hH
    injection h2 with h2
    injection h2 with _ h2
    exact absurd h2 (by decide)
  have zh := hH.lt
  have HH := hide hH
  clear hf hG hC hM hB hb kk hbb hH
  go_enter Tryd.func26, Tryd.ntmps26
  go_wp2_with fail
  rw [← HBB.out]
  go_loopw [5] (fun u wr => ∃ ds l bk, Hid (Ch w a e ds u) ∧ Hid (Only (fun k => k = g) w wr) ∧ Hid (Blk wr b 48 #[l]) ∧ Hid (Blk wr g 4 #[.bool bk]) ∧ Hid (anyC x bk ds = anyC x b0 cs)) (fun u _ => f u)
  case atStart => exact ⟨cs, _, b0, HC, HO, HK, HB1, hide rfl⟩
  case round =>
    obtain ⟨ds, l, bk, HCr, HOr, HL, HBr, HRr⟩ := hrel
    have HGr := hide (HG.out.only HOr.out (fun k hk => by have := HM.out; omega))
    cases ds with
    | nil =>
      have hbk : bk = anyC x b0 cs := by have := HRr.out; simpa [anyC] using this
      have HBK := hide hbk
      clear hbk
      have hcr := HCr.out
      cases e with
      | sent n =>
        have hv : u5 = _ := hcr
        subst hv
        have HAS := hide (eAs_str_l (a n) b wr HGr.out.et)
        clear hcr
        go_wp2_with fail
        refine HAS.out.mono ?_
        rintro e' w2 ⟨rfl, hb2⟩
        have HW := hide (And.intro (HBr.out.below hb2 HBr.out.lt) (HOr.out.step hb2))
        clear hb2
        go_wp2_with fail
        go_end0
        exact ⟨rfl, by rw [← HBK.out]; exact HW.out.1, HW.out.2⟩
      | txt t =>
        obtain ⟨p, hv, hp⟩ := hcr
        subst hv
        have HAS := hide (eAs_wrd_l ⟨p, 0, none⟩ b wr HGr.out.et)
        clear hp
        go_wp2_with fail
        refine HAS.out.mono ?_
        rintro e' w2 ⟨rfl, hb2⟩
        have HW := hide (And.intro (HBr.out.below hb2 HBr.out.lt) (HOr.out.step hb2))
        clear hb2
        go_wp2_with fail
        go_end0
        exact ⟨rfl, by rw [← HBK.out]; exact HW.out.1, HW.out.2⟩
    | cons c ds =>
      obtain ⟨p, u, hv, hp, hU⟩ := HCr.out
      subst hv
      have hzp := hp.lt
      have hpg : ¬ p = g := by
        intro e'
        have h1 := HB0.out
        rw [← e'] at h1
        have h2 := h1.symm.trans hp
        injection h2 with h2
        injection h2 with _ h2
        exact absurd h2 (by decide)
      have hpb : ¬ p = b := by have := HBB.out; omega
      have hpr : Blk wr p 52 #[.int .u32 (c : Nat), u] := (HOr.out.block p hzp hpg).trans hp
      have HAS := hide (eAs_link p b l wr HL.out HGr.out.et)
      have HPR := hide hpr
      have HU := hide hU
      have HMS : Hid (f u < f (.iface 48 (.pointer (some ⟨p, 0, none⟩)))) := hide (by rw [HF.out _ _ hU, HF.out _ _ HCr.out]; simp)
      obtain ⟨t2, x2, rfl⟩ := ch_iface hU
      clear hp hU hpr
      go_wp2_with fail
      refine HAS.out.mono ?_
      rintro e' w2 ⟨rfl, hL2, hO2⟩
      have hp2 : Blk w2 p 52 #[.int .u32 (c : Nat), .iface t2 x2] := (hO2.block p HPR.out.lt hpb).trans HPR.out
      have hg2 : Blk w2 g 4 #[.bool bk] := (hO2.block g HBr.out.lt hgb).trans HBr.out
      have hO02 : Only (fun k => k = g) w w2 := HOr.out.trans hO2 (fun i hi h => by have := HBB.out; omega)
      have l0 := hL2.cell 0 (u := .pointer (some ⟨p, 0, none⟩)) rfl
      have p0 := hp2.cell 0 (u := .int .u32 (c : Nat)) rfl
      have HCL := hide (has_one c g h x bk w2 hg2 ((hO02.block h zh hgh).trans HH.out))
      have HP2 := hide hp2
      have HL2 := hide hL2
      have HO02 := hide hO02
      clear hL2 hO2 hp2 hg2 hO02
      go_wp2_with fail
      refine HCL.out.mono ?_
      rintro e' w3 ⟨rfl, hg3, hO3⟩
      have hp3 : Blk w3 p 52 #[.int .u32 (c : Nat), .iface t2 x2] := (hO3.block p HP2.out.lt hpg).trans HP2.out
      have hL3 : Blk w3 b 48 #[.pointer (some ⟨p, 0, none⟩)] := (hO3.block b HL2.out.lt (fun e' => hgb e'.symm)).trans HL2.out
      have l3 := hL3.cell 0 (u := .pointer (some ⟨p, 0, none⟩)) rfl
      have p3 := hp3.cell 1 (u := .iface t2 x2) rfl
      have HL3 := hide hL3
      have HG3 := hide hg3
      have HO3 := hide (HO02.out.trans hO3 (fun _ _ h => h))
      clear hg3 hO3 hp3 hL3 l0 p0
      go_wp2_with fail
      go_roundw
      case rel => exact ⟨ds, _, (bk || decide (c = x)), HU, HO3, HL3, HG3, hide (by rw [anyC_cons]; exact HRr.out)⟩
      case measure => exact HMS.out

end Go.Proofs.YtkhbcmkcjnnejaaDoor

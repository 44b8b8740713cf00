/- Package dict: Get, Peek, may, May. -/
import Derived.Test.YtehabbnohoomjaaGreatDoorNv34
import Derived.Test.YtehabbnohoomjaaGreatDoorNv37
namespace Go.Proofs.YtehabbnohoomjaaGreatDoor
section
set_option linter.unusedVariables false
set_option linter.unusedSimpArgs false
set_option linter.unnecessarySimpa false
section
open Go.RowKit
set_option maxRecDepth 100000
set_option maxHeartbeats 2000000
section
variable {F : Nat → Prop} {p n cl cv : Nat} {Av : Option Addr} {L : List Ent} {V : List (List UInt8)} {ds es : List (Option Addr × Nat)} {gl : Nat}
/-- Get's answer -/
def GetR (L : List Ent) (V : List (List UInt8)) (ix sub : Int) (w : World) (e : Ending) (w' : World) : Prop :=
  ∃ A m c b, e = .returned (.tuple #[.slice A m c, .int .u32 (getC L ix sub)]) ∧ OwnB w' w.heap.size A m c b ∧ b = (if getC L ix sub = 0 then valK V (locK L ix sub) else []) ∧ Below w.heap.size w w'
theorem dict_get (ix sub : Int) (w : World) (hD : DB 102 w F p (some ⟨gl, 0, none⟩) n cl Av cv L V ds es) (hs : SortedE L) (hn : n ≤ 1000) :
    Calls Tryz.prog 37 #[.pointer (some ⟨p, 0, none⟩), .int .i64 ix, .int .i64 sub] w (GetR L V ix sub w) := by
  have HS := hide hs
  have HD := hide hD
  have HN := hide hD.ents.hn
  have HLV := hide hD.lenV
  clear hs hD
  go_enter Tryz.func37, Tryz.ntmps37
  go_wp2_with fail
  refine (dict_locate ix sub _ HD.out HS.out hn).mono ?_
  rintro e w1 ⟨rfl, hb1⟩
  have HD1 := hide (HD.out.below hb1)
  by_cases hf : 0 ≤ findL L ix sub
  · have hc0 : codeL L ix sub = 0 := code_zero.2 hf
    have hk := loc_lt hf
    have HG : Hid (getC L ix sub = readE (entK L (locK L ix sub)).acc) := hide (by unfold getC; rw [if_pos hc0])
    obtain ⟨k, hkk⟩ : ∃ k, k = locK L ix sub := ⟨_, rfl⟩
    obtain ⟨E, hE⟩ : ∃ E, L[k]? = some E := ⟨L[k]'(by rw [hkk]; exact hk), List.getElem?_eq_getElem _⟩
    obtain ⟨v, hv⟩ : ∃ v, V[k]? = some v := ⟨V[k]'(by rw [hkk, HLV.out]; exact hk), List.getElem?_eq_getElem _⟩
    have hkn : k < n := by rw [hkk, HN.out]; exact hk
    have HE : Hid (getC L ix sub = readE E.acc) := hide (by rw [HG.out, ← hkk, entK_at hE])
    have HV : Hid (valK V (locK L ix sub) = v) := hide (by rw [← hkk, valK_at hv])
    have HF := hide hf
    rw [hc0, ← hkk]
    clear hc0 hk HG hf hkk
    obtain ⟨g, d, hA, zg, _, _, _, c0, c1, c2, c3, c4, c5, c6, c7, c8, c9, c10⟩ := HD1.out.ent hE
    injection hA with hA
    injection hA with hA
    subst hA
    have hBr := HD1.out.blk
    obtain ⟨hBr_c0, hBr_c1⟩ := cel2 hBr
    have hBr_f := hBr.frozen
    go_wp2_with fail
    refine (ent_readable E d.1 E.df.length d.2 _).mono ?_
    rintro e w2 ⟨rfl, hb2⟩
    have HD2 := hide (HD1.out.below hb2)
    by_cases hr : readE E.acc = 0
    · obtain ⟨gv, dv, hAv, _, _, hO, hfit, cv0, _, _⟩ := HD2.out.val hv
      subst hAv
      rw [hr]
      have HR := hide hr
      clear hr c0 c1 c2 c3 c4 c5 c6 c7 c8 c9 c10 zg hE hv
      clear hBr_c0 hBr_c1 hBr_f
      have hB2 := HD2.out.blk
      obtain ⟨hB2_c0, hB2_c1⟩ := cel2 hB2
      have hB2_f := hB2.frozen
      have HO := hide (hO.sl)
      clear hO
      go_wp2_with fail
      refine (dict_own dv.1 v.length dv.2 v _ rfl hfit HO.out).mono ?_
      rintro e w3 ⟨A3, c3, rfl, hO3, hb3⟩
      go_wp2_with fail
      go_ret2
      refine ⟨A3, v.length, c3, v, by rw [HE.out, HR.out]; rfl, hO3.mono (by have := hb1.size; have := hb2.size; omega), by rw [HE.out, HR.out, HV.out]; rfl, below_step hb3 (below_step hb2 hb1)⟩
    · have hr1 : readE E.acc = 100728833 := by unfold readE at *; split at hr <;> simp_all
      have HR := hide hr1
      rw [hr1]
      clear hr hr1
      go_wp2_with fail
      go_ret2
      refine ⟨none, 0, 0, [], by rw [HE.out, HR.out]; rfl, OwnB.nil _ _, by rw [HE.out, HR.out]; rfl, below_step hb2 hb1⟩
  · have HC : Hid (getC L ix sub = codeL L ix sub) := hide (by unfold getC; rw [if_neg (fun h => hf (code_zero.1 h))])
    have hcc : codeL L ix sub ≠ 0 := fun h => hf (code_zero.1 h)
    have HX := hide hcc
    obtain ⟨cc, hce⟩ : ∃ cc, cc = codeL L ix sub := ⟨_, rfl⟩
    have hcn : ¬ cc = 0 := by rw [hce]; exact hcc
    rw [← hce]
    have HE := hide hce
    clear hf hcc hce
    go_wp2_with fail
    go_ret2
    refine ⟨none, 0, 0, [], by rw [HC.out, ← HE.out]; rfl, OwnB.nil _ _, by rw [HC.out, if_neg HX.out], hb1⟩
def PeekR (L : List Ent) (V : List (List UInt8)) (ix sub : Int) (w : World) (e : Ending) (w' : World) : Prop :=
  ∃ A m c b, e = .returned (.tuple #[.slice A m c, .bool (hasL L ix sub)]) ∧ OwnB w' w.heap.size A m c b ∧ b = (if hasL L ix sub = true then valK V (locK L ix sub) else []) ∧ Below w.heap.size w w'
end
end
section
open Go.RowKit
set_option maxRecDepth 100000
set_option maxHeartbeats 2000000
section
variable {F : Nat → Prop} {p n cl cv : Nat} {Av : Option Addr} {L : List Ent} {V : List (List UInt8)} {ds es : List (Option Addr × Nat)} {gl : Nat}
theorem writeE_cases (acc : Int) : writeE acc = 0 ∨ writeE acc = 100728834 := by unfold writeE; split <;> simp
theorem dict_mayi (ix sub : Int) (any : Bool) (A : Option Addr) (m c : Nat) (b : List UInt8) (w : World) (hD : DB 102 w F p (some ⟨gl, 0, none⟩) n cl Av cv L V ds es) (hs : SortedE L) (hn : n ≤ 1000)
    (hm : m = b.length) (hc : m ≤ c) (hl : m ≤ 35184372088832) (hb : Sl w A (b.map bv)) :
    Calls Tryz.prog 87 #[.pointer (some ⟨p, 0, none⟩), .int .i64 ix, .int .i64 sub, .slice A m c, .bool any] w fun e w' => e = .returned (.tuple #[.int .i64 (locK L ix sub), .int .u32 (mayC L ix sub b any)]) ∧ Below w.heap.size w w' := by
  have HS := hide hs
  have HD := hide hD
  have HN := hide hD.ents.hn
  have HM := hide hm
  have HB := hide hb
  clear hs hD hm hb
  go_enter Tryz.func87, Tryz.ntmps87
  go_wp2_with fail
  refine (dict_locate ix sub _ HD.out HS.out hn).mono ?_
  rintro e w1 ⟨rfl, hb1⟩
  have HD1 := hide (HD.out.below hb1)
  have HB1 := hide (HB.out.below hb1)
  by_cases hf : 0 ≤ findL L ix sub
  · have hc0 : codeL L ix sub = 0 := code_zero.2 hf
    have hk := loc_lt hf
    obtain ⟨k, hkk⟩ : ∃ k, k = locK L ix sub := ⟨_, rfl⟩
    obtain ⟨E, hE⟩ : ∃ E, L[k]? = some E := ⟨L[k]'(by rw [hkk]; exact hk), List.getElem?_eq_getElem _⟩
    have hkn : k < n := by rw [hkk, HN.out]; exact hk
    have HC : Hid (mayC L ix sub b any = if any = false ∧ writeE E.acc ≠ 0 then writeE E.acc else valC E b) := hide (by unfold mayC; rw [if_pos hc0, ← hkk, entK_at hE])
    rw [hc0, ← hkk]
    have HKK := hide hkk
    clear hc0 hk hf hkk
    obtain ⟨g, d, hA, zg, _, _, _, c0, c1, c2, c3, c4, c5, c6, c7, c8, c9, c10⟩ := HD1.out.ent hE
    injection hA with hA
    injection hA with hA
    subst hA
    have hBr := HD1.out.blk
    obtain ⟨hBr_c0, hBr_c1⟩ := cel2 hBr
    have hBr_f := hBr.frozen
    cases any
    · go_wp2_with fail
      refine (ent_writable E d.1 E.df.length d.2 _).mono ?_
      rintro e w2 ⟨rfl, hb2⟩
      have HD2 := hide (HD1.out.below hb2)
      clear c0 c1 c2 c3 c4 c5 c6 c7 c8 c9 c10 zg
      clear hBr_c0 hBr_c1 hBr_f
      rcases writeE_cases E.acc with hw | hw
      · have HC2 : Hid (mayC L ix sub b false = valC E b) := hide (by rw [HC.out, hw]; rfl)
        rw [hw]
        clear hw
        obtain ⟨g, d', hA, zg, hd', _, _, c0, c1, c2, c3, c4, c5, c6, c7, c8, c9, c10⟩ := HD2.out.ent hE
        injection hA with hA
        injection hA with hA
        subst hA
        have hB2 := HD2.out.blk
        obtain ⟨hB2_c0, hB2_c1⟩ := cel2 hB2
        have hB2_f := hB2.frozen
        clear hE hd'
        go_wp2_with fail
        refine (ent_value E d'.1 E.df.length d'.2 A m c b _ HM.out hc hl (HB1.out.below hb2)).mono ?_
        rintro e w3 ⟨rfl, hb3⟩
        go_wp2_with fail
        go_ret2
        exact ⟨by rw [HC2.out, ← HKK.out]; rfl, below_step hb3 (below_step hb2 hb1)⟩
      · have HC2 : Hid (mayC L ix sub b false = 100728834) := hide (by rw [HC.out, hw]; rfl)
        rw [hw]
        clear hw
        go_wp2_with fail
        go_ret2
        exact ⟨by rw [HC2.out, ← HKK.out]; rfl, below_step hb2 hb1⟩
    · have HC2 : Hid (mayC L ix sub b true = valC E b) := hide (by rw [HC.out]; rfl)
      go_wp2_with fail
      refine (ent_value E d.1 E.df.length d.2 A m c b _ HM.out hc hl HB1.out).mono ?_
      rintro e w3 ⟨rfl, hb3⟩
      go_wp2_with fail
      go_ret2
      exact ⟨by rw [HC2.out, ← HKK.out]; rfl, below_step hb3 hb1⟩
  · have HC : Hid (mayC L ix sub b any = codeL L ix sub) := hide (by unfold mayC; rw [if_neg (fun h => hf (code_zero.1 h))])
    have hcc : codeL L ix sub ≠ 0 := fun h => hf (code_zero.1 h)
    obtain ⟨cc, hce⟩ : ∃ cc, cc = codeL L ix sub := ⟨_, rfl⟩
    have hcn : ¬ cc = 0 := by rw [hce]; exact hcc
    rw [← hce]
    have HE := hide hce
    clear hf hcc hce
    go_wp2_with fail
    go_ret2
    exact ⟨by rw [HC.out, ← HE.out]; rfl, hb1⟩
/-- what a call that sets a value leaves: the dictionary in its old blocks and new ones -/
def PutR (F : Nat → Prop) (p gl n cl : Nat) (Av : Option Addr) (cv : Nat) (L : List Ent) (V : List (List UInt8)) (ds : List (Option Addr × Nat)) (ix sub : Int) (b : List UInt8) (any : Bool) (w : World) (e : Ending) (w' : World) : Prop :=
  ∃ V' es', e = .returned (.int .u32 (mayC L ix sub b any)) ∧ V' = putV L V ix sub b any ∧ DB 102 w' (fun g => F g ∨ w.heap.size ≤ g) p (some ⟨gl, 0, none⟩) n cl Av cv L V' ds es' ∧ Only F w w'
theorem dict_put (ix sub : Int) (any : Bool) (A : Option Addr) (m c : Nat) (b : List UInt8) (w : World) (hD : DB 102 w F p (some ⟨gl, 0, none⟩) n cl Av cv L V ds es) (hs : SortedE L) (hn : n ≤ 1000)
    (hm : m = b.length) (hc : m ≤ c) (hl : m ≤ 35184372088832) (hb : Sl w A (b.map bv)) :
    Calls Tryz.prog 45 #[.pointer (some ⟨p, 0, none⟩), .int .i64 ix, .int .i64 sub, .slice A m c, .bool any] w (PutR F p gl n cl Av cv L V ds ix sub b any w) := by
  have HC := hide (dict_mayi ix sub any A m c b w hD hs hn hm hc hl hb)
  have HD := hide hD
  have HM := hide hm
  have HB := hide hb
  have HFK : Hid (mayC L ix sub b any = 0 → locK L ix sub < n ∧ V.length = n) := hide (by
    intro h
    refine ⟨?_, by rw [hD.lenV, hD.ents.hn]⟩
    rw [hD.ents.hn]
    refine loc_lt (code_zero.1 ?_)
    unfold mayC at h
    split at h
    · assumption
    · exact h)
  obtain ⟨cc, hce⟩ : ∃ cc, cc = mayC L ix sub b any := ⟨_, rfl⟩
  have HE := hide hce
  clear hD hs hm hb hce hc
  go_enter Tryz.func45, Tryz.ntmps45
  go_wp2_with fail
  refine HC.out.mono ?_
  rintro e w1 ⟨rfl, hb1⟩
  have HD1 := hide (HD.out.below hb1)
  have HB1 := hide (HB.out.below hb1)
  clear HC
  by_cases h0 : cc = 0
  · have h0' : mayC L ix sub b any = 0 := by rw [← HE.out]; exact h0
    obtain ⟨hkn, hvn⟩ := HFK.out h0'
    have HP : Hid (putV L V ix sub b any = V.set (locK L ix sub) b) := hide (by unfold putV; rw [if_pos h0'])
    rw [h0']
    have H0 := hide h0'
    obtain ⟨k, hkk⟩ : ∃ k, k = locK L ix sub := ⟨_, rfl⟩
    rw [← hkk] at hkn HP ⊢
    clear h0 h0' hkk HFK
    have HFB := hide hl
    clear hl
    obtain ⟨v, hv⟩ : ∃ v, V[k]? = some v := ⟨V[k]'(by rw [hvn]; exact hkn), List.getElem?_eq_getElem _⟩
    obtain ⟨gv, dv, hAv, zv, _, _, _, cv0, cf0, hFv⟩ := HD1.out.val hv
    subst hAv
    have hB2 := HD1.out.blk
    have zp := hB2.lt
    obtain ⟨hB2_c0, hB2_c1⟩ := cel2 hB2
    have hB2_f := hB2.frozen
    obtain ⟨i1, i2, i3⟩ := idx_at hkn
    have hne : p ≠ gv := fun h => blk_own_ne hB2 HD1.out.vals.own (by decide) (by rw [h]; rfl)
    clear hv hvn
    go_wp2_with fail
    refine wp_region_held_drew (S := (fun w' => w'.cell? ⟨p, 1, none⟩ = some (.slice (some ⟨gv, 0, none⟩) n cv) ∧ True)) (by kernel_rfl) ?hS1 (fun hHeld => ?rest1)
    case hS1 => ((try dsimp only); (exact ⟨hB2_c1, trivial⟩))
    case' rest1 => skip
    refine wpAnyH_take (i := 0) (oi := _) (v := ?v2) rfl (by kernel_rfl) (by kernel_rfl) (by kernel_rfl) (fun _ _ _ h => h) (Or.inl ⟨by rfl, ?hy2⟩) (by assumption) ?rest2
    case hy2 => ((intro w hSw; (try dsimp only at hSw); go_simp) <;> with_reducible rfl)
    case' rest2 => try simp only [List.getElem_toArray, List.getElem_cons_zero, List.getElem_cons_succ, Act.put, List.setIfInBounds_toArray, List.set_cons_zero, List.set_cons_succ]
    refine wpAnyH_take (i := 1) (oi := _) (v := ?v3) rfl (by kernel_rfl) (by kernel_rfl) (by kernel_rfl) (fun _ _ _ h => h) (Or.inl ⟨by rfl, ?hy3⟩) (by assumption) ?rest3
    case hy3 => ((intro w hSw; (try dsimp only at hSw); go_simp) <;> with_reducible rfl)
    case' rest3 => try simp only [List.getElem_toArray, List.getElem_cons_zero, List.getElem_cons_succ, Act.put, List.setIfInBounds_toArray, List.set_cons_zero, List.set_cons_succ]
    refine wpAnyH_take (i := 2) (oi := _) (v := ?v4) rfl (by kernel_rfl) (by kernel_rfl) (by kernel_rfl) (fun _ _ _ h => h) (Or.inl ⟨by rfl, ?hy4⟩) (by assumption) ?rest4
    case hy4 => ((intro w hSw; (try dsimp only at hSw); go_simp) <;> with_reducible rfl)
    case' rest4 => try simp only [List.getElem_toArray, List.getElem_cons_zero, List.getElem_cons_succ, Act.put, List.setIfInBounds_toArray, List.set_cons_zero, List.set_cons_succ]
    refine wpAnyH_take (i := 3) (oi := _) (v := ?v5) rfl (by kernel_rfl) (by kernel_rfl) (by kernel_rfl) (fun _ _ _ h => h) (Or.inl ⟨by rfl, ?hy5⟩) (by assumption) ?rest5
    case hy5 => ((intro w hSw; (try dsimp only at hSw); go_simp) <;> with_reducible rfl)
    case' rest5 => try simp only [List.getElem_toArray, List.getElem_cons_zero, List.getElem_cons_succ, Act.put, List.setIfInBounds_toArray, List.set_cons_zero, List.set_cons_succ]
    refine wpAnyH_take (i := 4) (oi := _) (v := ?v6) rfl (by kernel_rfl) (by kernel_rfl) (by kernel_rfl) (fun _ _ _ h => h) (Or.inl ⟨by rfl, ?hy6⟩) (by assumption) ?rest6
    case hy6 => ((intro w hSw; (try dsimp only at hSw); go_simp) <;> with_reducible rfl)
    case' rest6 => try simp only [List.getElem_toArray, List.getElem_cons_zero, List.getElem_cons_succ, Act.put, List.setIfInBounds_toArray, List.set_cons_zero, List.set_cons_succ]
    refine wpAnyH_take (i := 5) (oi := _) (v := ?v7) rfl (by kernel_rfl) (by kernel_rfl) (by kernel_rfl) (fun _ _ _ h => h) (Or.inl ⟨by rfl, ?hy7⟩) (by assumption) ?rest7
    case hy7 => ((intro w hSw; (try dsimp only at hSw); go_simp) <;> with_reducible rfl)
    case' rest7 => try simp only [List.getElem_toArray, List.getElem_cons_zero, List.getElem_cons_succ, Act.put, List.setIfInBounds_toArray, List.set_cons_zero, List.set_cons_succ]
    refine wpAnyH_ready (rs := [6]) (by kernel_rfl) (by simp) ?_
    refine AllReadyH.cons (o := _) rfl (fun K hK => ?_) AllReadyH.nil
    go_simp
    refine (dict_own A m c b _ HM.out HFB.out HB1.out.drew).mono ?_
    rintro e w2 ⟨A3, c3, rfl, hO3, hb3⟩
    dsimp only
    have zp' : p < w1.drew.heap.size := zp
    refine hK.out _ _ ?hS10 (fun hHeld => ?rest10)
    case hS10 => ((try dsimp only); (exact ⟨(Blk.below (w := w1.drew) hB2 hb3 zp').cell 1 rfl, trivial⟩))
    case' rest10 => (clear hK K; try simp only [List.getElem_toArray, List.getElem_cons_zero, List.getElem_cons_succ, Act.put, List.setIfInBounds_toArray, List.set_cons_zero, List.set_cons_succ])
    have zv3 := Nat.lt_of_lt_of_le zv hb3.size
    have hf3 : w2.frozen? ⟨gv, k, none⟩ = false := (hb3.frozen (p := ⟨gv, k, none⟩) zv).trans cf0
    have hc3 : w2.cell? ⟨gv, k, none⟩ = w1.cell? ⟨gv, k, none⟩ := hb3.cell (p := ⟨gv, k, none⟩) zv
    rw [cv0] at hc3
    refine wpAnyH_take (i := 7) (oi := _) (v := ?v11) rfl (by kernel_rfl) (by kernel_rfl) (by kernel_rfl) (fun _ _ _ h => h) (Or.inl ⟨by rfl, ?hy11⟩) (by assumption) ?rest11
    case hy11 => ((intro w hSw; (try dsimp only at hSw); go_simp) <;> with_reducible rfl)
    case' rest11 => try simp only [List.getElem_toArray, List.getElem_cons_zero, List.getElem_cons_succ, Act.put, List.setIfInBounds_toArray, List.set_cons_zero, List.set_cons_succ]
    refine wpAnyH_ready (rs := [8]) (by kernel_rfl) (by simp) ?_
    refine AllReadyH.cons (o := _) rfl (fun K hK => ?_) AllReadyH.nil
    go_simp
    refine hK.out _ _ ?hS14 (fun hHeld => ?rest14)
    case hS14 => ((try dsimp only); (exact ⟨((Blk.below (w := w1.drew) hB2 hb3 zp').far hne _).cell 1 rfl, trivial⟩))
    case' rest14 => (clear hK K; try simp only [List.getElem_toArray, List.getElem_cons_zero, List.getElem_cons_succ, Act.put, List.setIfInBounds_toArray, List.set_cons_zero, List.set_cons_succ])
    refine wpAnyH_done (by kernel_rfl) ?_ _
    have hEnd := hHeld.2
    repeat (clear hHeld)
    go_wp2_with fail
    go_ret
    have hb4 : Below w1.heap.size w1 w2 := ⟨hb3.os, hb3.tape, hb3.output, hb3.size, hb3.block⟩
    have HD3 := HD1.out.below (w' := w2) hb4
    refine ⟨_, _, by rw [H0.out]; rfl, HP.out.symm, DB.store (HD3.mono (fun g _ h => .inl h)) (by decide) hkn (hO3.mono (Nat.zero_le _)) ?_ (by have := HM.out; have := HFB.out; unfold fitB; omega), ?_⟩
    · exact hO3.own.fin.mono (fun g h => .inr (by have := hb1.size; have := h.1; simp at this; omega))
    · exact ((Only.of_below hb1).step hb4).trans (Only.of_set (F := F) hFv _) (fun _ _ h => h)
  · have HP : Hid (putV L V ix sub b any = V) := hide (by unfold putV; rw [if_neg (by rw [← HE.out]; exact h0)])
    rw [← HE.out]
    clear HFK
    go_wp2_with fail
    go_ret
    exact ⟨V, es, by rw [← HE.out]; rfl, HP.out.symm, HD1.out.mono (fun g _ h => .inl h), Only.of_below hb1⟩
theorem dict_set (ix sub : Int) (A : Option Addr) (m c : Nat) (b : List UInt8) (w : World) (hD : DB 102 w F p (some ⟨gl, 0, none⟩) n cl Av cv L V ds es) (hs : SortedE L) (hn : n ≤ 1000)
    (hm : m = b.length) (hc : m ≤ c) (hl : m ≤ 35184372088832) (hb : Sl w A (b.map bv)) :
    Calls Tryz.prog 36 #[.pointer (some ⟨p, 0, none⟩), .int .i64 ix, .int .i64 sub, .slice A m c] w (PutR F p gl n cl Av cv L V ds ix sub b false w) := by
  have HC := hide (dict_put ix sub false A m c b w hD hs hn hm hc hl hb)
  clear hD hs hn hm hc hl hb
  go_enter Tryz.func36, Tryz.ntmps36
  go_wp2_with fail
  refine HC.out.mono ?_
  rintro e w1 ⟨V', es', rfl, h2, h3, h4⟩
  have H2 := hide h2
  have H3 := hide h3
  have H4 := hide h4
  clear h2 h3 h4
  go_wp2_with fail
  go_ret
  exact ⟨V', es', rfl, H2.out, H3.out, H4.out⟩
theorem dict_poke (ix sub : Int) (A : Option Addr) (m c : Nat) (b : List UInt8) (w : World) (hD : DB 102 w F p (some ⟨gl, 0, none⟩) n cl Av cv L V ds es) (hs : SortedE L) (hn : n ≤ 1000)
    (hm : m = b.length) (hc : m ≤ c) (hl : m ≤ 35184372088832) (hb : Sl w A (b.map bv)) :
    Calls Tryz.prog 12 #[.pointer (some ⟨p, 0, none⟩), .int .i64 ix, .int .i64 sub, .slice A m c] w (PutR F p gl n cl Av cv L V ds ix sub b true w) := by
  have HC := hide (dict_put ix sub true A m c b w hD hs hn hm hc hl hb)
  clear hD hs hn hm hc hl hb
  go_enter Tryz.func12, Tryz.ntmps12
  go_wp2_with fail
  refine HC.out.mono ?_
  rintro e w1 ⟨V', es', rfl, h2, h3, h4⟩
  have H2 := hide h2
  have H3 := hide h3
  have H4 := hide h4
  clear h2 h3 h4
  go_wp2_with fail
  go_ret
  exact ⟨V', es', rfl, H2.out, H3.out, H4.out⟩
end
end
end
end Go.Proofs.YtehabbnohoomjaaGreatDoor
namespace Go.Proofs.YtehabbnohoomjaaGreatDoor
section
set_option linter.unusedVariables false
set_option linter.unusedSimpArgs false
set_option linter.unnecessarySimpa false
open Go.RowKit
set_option maxRecDepth 100000
set_option maxHeartbeats 4000000
/-- the cells of block g become the entry -/
def put11 (w : World) (g : Nat) (E : Ent) (A : Option Addr) (n c : Nat) : World :=
  ((((((((((w.setCell ⟨g, 0, none⟩ (.int .i64 E.ix)).setCell ⟨g, 1, none⟩ (.int .i64 E.sub)).setCell ⟨g, 2, none⟩ (.string E.nm)).setCell ⟨g, 3, none⟩ (.int .i64 E.ty)).setCell ⟨g, 4, none⟩ (.int .i64 E.acc)).setCell ⟨g, 5, none⟩ (.bool E.mp)).setCell ⟨g, 6, none⟩ (.bool E.st)).setCell ⟨g, 7, none⟩ (.int .i64 E.mx)).setCell ⟨g, 8, none⟩ (.int .i64 E.lo)).setCell ⟨g, 9, none⟩ (.int .i64 E.hi)).setCell ⟨g, 10, none⟩ (.slice A n c)
theorem list11 {α : Type} (a0 a1 a2 a3 a4 a5 a6 a7 a8 a9 a10 : α) (l : List α) (h : l.length = 11) :
    ((((((((((((((((((((((l.set 0 a0).set 1 a1).set 2 a2).set 3 a3).set 4 a4).set 5 a5).set 6 a6).set 7 a7).set 8 a8).set 9 a9).set 10 a10)))))))))))) = [a0, a1, a2, a3, a4, a5, a6, a7, a8, a9, a10] := by
  match l, h with
  | [_, _, _, _, _, _, _, _, _, _, _], _ => rfl
theorem put11_blk {w : World} {g : Nat} {t : TypeId} {cs : Array Value} (hB : Blk w g t cs) (hs : cs.size = 11) (E : Ent) (A : Option Addr) (n c : Nat) : Blk (put11 w g E A n c) g t (entV E A n c) := by
  have h := ((((((((((hB.set_ 0 (.int .i64 E.ix)).set_ 1 (.int .i64 E.sub)).set_ 2 (.string E.nm)).set_ 3 (.int .i64 E.ty)).set_ 4 (.int .i64 E.acc)).set_ 5 (.bool E.mp)).set_ 6 (.bool E.st)).set_ 7 (.int .i64 E.mx)).set_ 8 (.int .i64 E.lo)).set_ 9 (.int .i64 E.hi)).set_ 10 (.slice A n c)
  obtain ⟨l⟩ := cs
  simp only [List.setIfInBounds_toArray] at h
  rw [list11 _ _ _ _ _ _ _ _ _ _ _ l (by simpa using hs)] at h
  exact h
theorem put11_only (w : World) (g : Nat) (E : Ent) (A : Option Addr) (n c : Nat) : Only (fun k => k = g) w (put11 w g E A n c) := by
  have st : ∀ (w' : World) (i : Nat) (u : Value), Only (fun k => k = g) w w' → Only (fun k => k = g) w (w'.setCell ⟨g, i, none⟩ u) := fun w' i u h => h.trans (Only.of_set (F := fun k => k = g) rfl u) (fun _ _ h => h)
  unfold put11
  exact st _ _ _ (st _ _ _ (st _ _ _ (st _ _ _ (st _ _ _ (st _ _ _ (st _ _ _ (st _ _ _ (st _ _ _ (st _ _ _ (st _ _ _ (Only.refl _ _)))))))))))
theorem ent_size : (Tryz.prog.info? 55).map (·.size) = some 11 := by kernel_rfl
theorem entV_size (E : Ent) (A : Option Addr) (n c : Nat) : (Tryz.prog.info? 55).map (·.size) = some (entV E A n c).size := ent_size
/-- an entry's result, whole -/
theorem ret_ent {fn : Func} {p : Tmp} (h : fn.results = #[.cell p 55]) {a : Act} {w : World} {g : Nat} {E : Ent} {A : Option Addr} {n c : Nat} {R : Ending → World → Prop} (hd : a.defers = []) (hp : a.tmps.getD p undef = .pointer (some ⟨g, 0, none⟩))
    (hB : Blk w g 55 (entV E A n c)) (hR : R (.returned (.agg (entV E A n c))) w) : bodyPost Tryz.prog fn R .ret a w :=
  bodyPost_ret (results_cell_row h _ _ _ _ _ _ _ hp hB Tryz.underlying55 rfl (entV_size E A n c)) hd hR
theorem ret_ent_tmp {fn : Func} {p u : Tmp} (h : fn.results = #[.cell p 55, .tmp u]) {a : Act} {w : World} {g : Nat} {E : Ent} {A : Option Addr} {n c : Nat} {R : Ending → World → Prop} (hd : a.defers = []) (hp : a.tmps.getD p undef = .pointer (some ⟨g, 0, none⟩))
    (hB : Blk w g 55 (entV E A n c)) (hR : R (.returned (.tuple #[.agg (entV E A n c), a.tmps.getD u undef])) w) : bodyPost Tryz.prog fn R .ret a w := by
  refine bodyPost_ret ?_ hd hR
  rw [results_cell_tmp h, hp]
  simp only [asAddr, Sem.run_pure, Result.andThen_ok]
  rw [run_loadVar_row w g _ _ _ _ _ hB Tryz.underlying55 rfl (entV_size E A n c)]
  rfl
theorem ownB_only {w w' : World} {B n c : Nat} {A : Option Addr} {l : List UInt8} {F : Nat → Prop} (h : OwnB w B A n c l) (ho : Only F w w') (hF : ∀ g, B ≤ g → g < w.heap.size → ¬ F g) : OwnB w' B A n c l :=
  ⟨h.hn, h.own.keep fun g hB hlt _ => ho.block g hlt (hF g hB hlt)⟩
end
end Go.Proofs.YtehabbnohoomjaaGreatDoor

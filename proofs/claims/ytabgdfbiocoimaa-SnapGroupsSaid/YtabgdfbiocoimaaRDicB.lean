/- The reference of dictionaries: Get, Peek, May. -/
import Derived.Test.YtabgdfbiocoimaaRDicA
namespace Go.Proofs.Ytabgdfbiocoimaa
set_option linter.unusedVariables false
set_option linter.unusedSimpArgs false
set_option linter.unnecessarySimpa false
open Go.RowKit
set_option maxRecDepth 100000
set_option maxHeartbeats 2000000
section
variable {F : Nat → Prop} {p n cl cv : Nat} {Al Av : Option Addr} {L : List Ent} {V : List (List UInt8)} {ds es : List (Option Addr × Nat)}
theorem find_nat {L : List Ent} {ix sub : Int} (h : 0 ≤ findL L ix sub) : ∃ k : Nat, findL L ix sub = (k : Int) ∧ locK L ix sub = k ∧ k < L.length := by
  obtain ⟨k, hk⟩ := Int.eq_ofNat_of_zero_le h
  have := loc_lt h
  refine ⟨k, hk, by unfold locK; rw [hk]; rfl, ?_⟩
  unfold locK at this
  rw [hk] at this
  exact this
theorem readE_cases (acc : Int) : readE acc = 0 ∨ readE acc = 100728833 := by unfold readE; split <;> simp
def RGetR (L : List Ent) (V : List (List UInt8)) (ix sub : Int) (w : World) (e : Ending) (w' : World) : Prop :=
  ∃ A m c b, e = .returned (.tuple #[.slice A m c, .int .u32 (getC L ix sub)]) ∧ OwnB w' w.heap.size A m c b ∧ b = (if getC L ix sub = 0 then valK V (locK L ix sub) else []) ∧ Below w.heap.size w w'
theorem rdic_get (ix sub : Int) (w : World) (hD : DB 66 w F p Al n cl Av cv L V ds es) (hn : n ≤ 1000) :
    Calls Try.prog 70 #[.pointer (some ⟨p, 0, none⟩), .int .i64 ix, .int .i64 sub] w (RGetR L V ix sub w) := by
  have HD := hide hD
  have HN := hide hD.ents.hn
  have HLV := hide hD.lenV
  by_cases hf : 0 ≤ findL L ix sub
  · obtain ⟨k, hk, hlk, hkl⟩ := find_nat hf
    obtain ⟨E, hE⟩ : ∃ E, L[k]? = some E := ⟨L[k], List.getElem?_eq_getElem _⟩
    obtain ⟨v, hv⟩ : ∃ v, V[k]? = some v := ⟨V[k]'(by rw [HLV.out]; exact hkl), List.getElem?_eq_getElem _⟩
    have hkn : k < n := by rw [HN.out]; exact hkl
    have HE : Hid (getC L ix sub = readE E.acc) := hide (by unfold getC; rw [if_pos (code_zero.2 hf), hlk, entK_at hE])
    have HV : Hid (valK V (locK L ix sub) = v) := hide (by rw [hlk, valK_at hv])
    have HK := hide hk
    obtain ⟨g, d, rfl, zg, _, _, _, c0, c1, c2, c3, c4, c5, c6, c7, c8, c9, c10⟩ := hD.ent hE
    have hBr := hD.blk
    clear hD hf hlk hkl hE hk
    have hBr_c0 := hBr.cell 0 rfl
    have hBr_f0 := hBr.frozen 0
    have hBr_c1 := hBr.cell 1 rfl
    have hBr_f1 := hBr.frozen 1
    go_enter Try.func70, Try.ntmps70
    go_wp2_with fail
    refine (rdic_find ix sub _ HD.out hn).mono ?_
    rintro e w1 ⟨rfl, rfl⟩
    rw [HK.out]
    go_wp2_with fail
    refine (rent_readable E d.1 E.df.length d.2 _).mono ?_
    rintro e w2 ⟨rfl, hb2⟩
    have HD2 := hide (HD.out.below hb2)
    clear c0 c1 c2 c3 c4 c5 c6 c7 c8 c9 c10 zg
    clear hBr_c0 hBr_f0 hBr_c1 hBr_f1
    rcases readE_cases E.acc with hr | hr
    · rw [hr]
      have HR := hide hr
      clear hr
      obtain ⟨gv, dv, rfl, _, _, hO, hfit, cv0, _, _⟩ := HD2.out.val hv
      have hB2 := HD2.out.blk
      have hB2_c0 := hB2.cell 0 rfl
      have hB2_f0 := hB2.frozen 0
      have hB2_c1 := hB2.cell 1 rfl
      have hB2_f1 := hB2.frozen 1
      have HO := hide hO.sl
      clear hO hv
      go_wp2_with fail
      refine (join_nil dv.1 v.length dv.2 v _ rfl hfit HO.out).mono ?_
      rintro e w3 ⟨A3, c3, rfl, hO3, hb3⟩
      go_wp2_with fail
      go_ret2
      refine ⟨A3, v.length, c3, v, by rw [HE.out, HR.out]; rfl, hO3.mono hb2.size, by rw [HE.out, HR.out, HV.out]; rfl, below_step hb3 hb2⟩
    · rw [hr]
      have HR := hide hr
      clear hr
      go_wp2_with fail
      go_ret2
      refine ⟨none, 0, 0, [], by rw [HE.out, HR.out]; rfl, OwnB.nil _ _, by rw [HE.out, HR.out]; rfl, hb2⟩
  · have HC : Hid (getC L ix sub = codeL L ix sub) := hide (by unfold getC; rw [if_neg (fun h => hf (code_zero.1 h))])
    have HX : Hid (codeL L ix sub ≠ 0) := hide (fun h => hf (code_zero.1 h))
    have HM := hide (code_missing hf)
    have hf' : findL L ix sub < 0 := by omega
    clear hf hD
    go_enter Try.func70, Try.ntmps70
    go_wp2_with fail
    refine (rdic_find ix sub _ HD.out hn).mono ?_
    rintro e w1 ⟨rfl, rfl⟩
    go_wp2_with fail
    refine (rdic_missing _ _).mono ?_
    rintro e w1 ⟨rfl, rfl⟩
    rw [HM.out]
    go_wp2_with fail
    go_ret2
    refine ⟨none, 0, 0, [], by rw [HC.out]; rfl, OwnB.nil _ _, by rw [HC.out, if_neg HX.out], Below.refl _ _⟩
def RPeekR (L : List Ent) (V : List (List UInt8)) (ix sub : Int) (w : World) (e : Ending) (w' : World) : Prop :=
  ∃ A m c b, e = .returned (.tuple #[.slice A m c, .bool (hasL L ix sub)]) ∧ OwnB w' w.heap.size A m c b ∧ b = (if hasL L ix sub = true then valK V (locK L ix sub) else []) ∧ Below w.heap.size w w'
theorem rdic_peek (ix sub : Int) (w : World) (hD : DB 66 w F p Al n cl Av cv L V ds es) (hn : n ≤ 1000) :
    Calls Try.prog 72 #[.pointer (some ⟨p, 0, none⟩), .int .i64 ix, .int .i64 sub] w (RPeekR L V ix sub w) := by
  have HD := hide hD
  have HN := hide hD.ents.hn
  have HLV := hide hD.lenV
  by_cases hf : 0 ≤ findL L ix sub
  · obtain ⟨k, hk, hlk, hkl⟩ := find_nat hf
    obtain ⟨v, hv⟩ : ∃ v, V[k]? = some v := ⟨V[k]'(by rw [HLV.out]; exact hkl), List.getElem?_eq_getElem _⟩
    have hkn : k < n := by rw [HN.out]; exact hkl
    have HH : Hid (hasL L ix sub = true) := hide (by simp [hasL, hf])
    have HV : Hid (valK V (locK L ix sub) = v) := hide (by rw [hlk, valK_at hv])
    have HK := hide hk
    obtain ⟨gv, dv, rfl, _, _, hO, hfit, cv0, _, _⟩ := hD.val hv
    have hBr := hD.blk
    have HO := hide hO.sl
    clear hD hf hlk hkl hv hk hO
    have hBr_c0 := hBr.cell 0 rfl
    have hBr_f0 := hBr.frozen 0
    have hBr_c1 := hBr.cell 1 rfl
    have hBr_f1 := hBr.frozen 1
    go_enter Try.func72, Try.ntmps72
    go_wp2_with fail
    refine (rdic_find ix sub _ HD.out hn).mono ?_
    rintro e w1 ⟨rfl, rfl⟩
    rw [HK.out]
    go_wp2_with fail
    refine (join_nil dv.1 v.length dv.2 v _ rfl hfit HO.out).mono ?_
    rintro e w3 ⟨A3, c3, rfl, hO3, hb3⟩
    go_wp2_with fail
    go_ret2
    refine ⟨A3, v.length, c3, v, by rw [HH.out]; rfl, hO3, by rw [HH.out, HV.out]; rfl, hb3⟩
  · have HH : Hid (hasL L ix sub = false) := hide (by simp [hasL, hf])
    have hf' : findL L ix sub < 0 := by omega
    clear hf hD
    go_enter Try.func72, Try.ntmps72
    go_wp2_with fail
    refine (rdic_find ix sub _ HD.out hn).mono ?_
    rintro e w1 ⟨rfl, rfl⟩
    go_wp2_with fail
    go_ret2
    refine ⟨none, 0, 0, [], by rw [HH.out]; rfl, OwnB.nil _ _, by rw [HH.out]; rfl, Below.refl _ _⟩
theorem rdic_may (ix sub : Int) (A : Option Addr) (m c : Nat) (b : List UInt8) (w : World) (hD : DB 66 w F p Al n cl Av cv L V ds es) (hn : n ≤ 1000)
    (hm : m = b.length) (hc : m ≤ c) (hl : m ≤ 35184372088832) (hb : Sl w A (b.map bv)) :
    Calls Try.prog 73 #[.pointer (some ⟨p, 0, none⟩), .int .i64 ix, .int .i64 sub, .slice A m c] w fun e w' => e = .returned (.int .u32 (mayC L ix sub b false)) ∧ Below w.heap.size w w' := by
  have HD := hide hD
  have HN := hide hD.ents.hn
  have HM := hide hm
  have HB := hide hb
  clear hm hb
  by_cases hf : 0 ≤ findL L ix sub
  · obtain ⟨k, hk, hlk, hkl⟩ := find_nat hf
    obtain ⟨E, hE⟩ : ∃ E, L[k]? = some E := ⟨L[k], List.getElem?_eq_getElem _⟩
    have hkn : k < n := by rw [HN.out]; exact hkl
    have HC : Hid (mayC L ix sub b false = if writeE E.acc ≠ 0 then writeE E.acc else valC E b) := hide (by unfold mayC; rw [if_pos (code_zero.2 hf), hlk, entK_at hE]; simp)
    have HK := hide hk
    have HE := hide hE
    obtain ⟨g, d, rfl, zg, _, _, _, c0, c1, c2, c3, c4, c5, c6, c7, c8, c9, c10⟩ := hD.ent hE
    have hBr := hD.blk
    clear hD hf hlk hkl hE hk
    have hBr_c0 := hBr.cell 0 rfl
    have hBr_f0 := hBr.frozen 0
    have hBr_c1 := hBr.cell 1 rfl
    have hBr_f1 := hBr.frozen 1
    go_enter Try.func73, Try.ntmps73
    go_wp2_with fail
    refine (rdic_find ix sub _ HD.out hn).mono ?_
    rintro e w1 ⟨rfl, rfl⟩
    rw [HK.out]
    go_wp2_with fail
    refine (rent_writable E d.1 E.df.length d.2 _).mono ?_
    rintro e w2 ⟨rfl, hb2⟩
    have HD2 := hide (HD.out.below hb2)
    clear c0 c1 c2 c3 c4 c5 c6 c7 c8 c9 c10 zg
    clear hBr_c0 hBr_f0 hBr_c1 hBr_f1
    rcases (show writeE E.acc = 0 ∨ writeE E.acc = 100728834 by unfold writeE; split <;> simp) with hw | hw
    · have HC2 : Hid (mayC L ix sub b false = valC E b) := hide (by rw [HC.out, hw]; rfl)
      rw [hw]
      clear hw
      obtain ⟨g, d', hA, zg, hd', _, _, c0, c1, c2, c3, c4, c5, c6, c7, c8, c9, c10⟩ := HD2.out.ent HE.out
      injection hA with hA
      injection hA with hA
      subst hA
      have hB2 := HD2.out.blk
      have hB2_c0 := hB2.cell 0 rfl
      have hB2_f0 := hB2.frozen 0
      have hB2_c1 := hB2.cell 1 rfl
      have hB2_f1 := hB2.frozen 1
      clear hd'
      go_wp2_with fail
      refine (rent_value E d'.1 E.df.length d'.2 A m c b _ HM.out hc hl (HB.out.below hb2)).mono ?_
      rintro e w3 ⟨rfl, hb3⟩
      go_wp2_with fail
      go_ret
      exact ⟨by rw [HC2.out]; rfl, below_step hb3 hb2⟩
    · have HC2 : Hid (mayC L ix sub b false = 100728834) := hide (by rw [HC.out, hw]; rfl)
      rw [hw]
      clear hw
      go_wp2_with fail
      go_ret
      exact ⟨by rw [HC2.out]; rfl, hb2⟩
  · have HC : Hid (mayC L ix sub b false = codeL L ix sub) := hide (by unfold mayC; rw [if_neg (fun h => hf (code_zero.1 h))])
    have HMS := hide (code_missing hf)
    have hf' : findL L ix sub < 0 := by omega
    clear hf hD
    go_enter Try.func73, Try.ntmps73
    go_wp2_with fail
    refine (rdic_find ix sub _ HD.out hn).mono ?_
    rintro e w1 ⟨rfl, rfl⟩
    go_wp2_with fail
    refine (rdic_missing _ _).mono ?_
    rintro e w1 ⟨rfl, rfl⟩
    rw [HMS.out]
    go_wp2_with fail
    go_ret
    exact ⟨by rw [HC.out]; rfl, Below.refl _ _⟩
end
end Go.Proofs.Ytabgdfbiocoimaa

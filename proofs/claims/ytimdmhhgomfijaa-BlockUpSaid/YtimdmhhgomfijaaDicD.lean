/- Package dict: Get, Peek, may, May. -/
import Derived.Test.YtimdmhhgomfijaaDicA
import Derived.Test.YtimdmhhgomfijaaEntC
namespace Go.Proofs.Ytimdmhhgomfijaa
set_option linter.unusedVariables false
set_option linter.unusedSimpArgs false
set_option linter.unnecessarySimpa false
section
open Go.RowKit
set_option maxRecDepth 100000
set_option maxHeartbeats 2000000
section
variable {F : Nat → Prop} {p n cl cv : Nat} {Av : Option Addr} {L : List Ent} {V : List (List UInt8)} {ds es : List (Option Addr × Nat)} {gl : Nat}
/-- Get's answer -/
def GetR (L : List Ent) (V : List (List UInt8)) (ix sub : Int) (w : World) (e : Ending) (w' : World) : Prop :=
  ∃ A m c b, e = .returned (.tuple #[.slice A m c, .int .u32 (getC L ix sub)]) ∧ OwnB w' w.heap.size A m c b ∧ b = (if getC L ix sub = 0 then valK V (locK L ix sub) else []) ∧ Below w.heap.size w w'
theorem dict_get (ix sub : Int) (w : World) (hD : DB 75 w F p (some ⟨gl, 0, none⟩) n cl Av cv L V ds es) (hs : SortedE L) (hn : n ≤ 1000) :
    Calls Try.prog 66 #[.pointer (some ⟨p, 0, none⟩), .int .i64 ix, .int .i64 sub] w (GetR L V ix sub w) := by
  have HS := hide hs
  have HD := hide hD
  have HN := hide hD.ents.hn
  have HLV := hide hD.lenV
  clear hs hD
  go_enter Try.func66, Try.ntmps66
  go_wp2_with fail
  refine (dict_locate ix sub _ HD.out HS.out hn).mono ?_
  rintro e w1 ⟨rfl, hb1⟩
  have HD1 := hide (HD.out.below hb1)
  by_cases hf : 0 ≤ findL L ix sub
  · have hc0 : codeL L ix sub = 0 := code_zero.2 hf
    have hk := loc_lt hf
    have HG : Hid (getC L ix sub = readE (entK L (locK L ix sub)).acc) := hide (by unfold getC; rw [if_pos hc0])
    obtain ⟨k, hkk⟩ : ∃ k, k = locK L ix sub := ⟨_, rfl⟩
    obtain ⟨E, hE⟩ : ∃ E, L[k]? = some E := ⟨L[k]'(by rw [hkk]; exact hk), List.getElem?_eq_getElem _⟩
    obtain ⟨v, hv⟩ : ∃ v, V[k]? = some v := ⟨V[k]'(by rw [hkk, HLV.out]; exact hk), List.getElem?_eq_getElem _⟩
    have hkn : k < n := by rw [hkk, HN.out]; exact hk
    have HE : Hid (getC L ix sub = readE E.acc) := hide (by rw [HG.out, ← hkk, entK_at hE])
    have HV : Hid (valK V (locK L ix sub) = v) := hide (by rw [← hkk, valK_at hv])
    have HF := hide hf
    rw [hc0, ← hkk]
    clear hc0 hk HG hf hkk
    obtain ⟨g, d, hA, zg, _, _, _, c0, c1, c2, c3, c4, c5, c6, c7, c8, c9, c10⟩ := HD1.out.ent hE
    injection hA with hA
    injection hA with hA
    subst hA
    have hBr := HD1.out.blk
    have hBr_c0 := hBr.cell 0 rfl
    have hBr_f0 := hBr.frozen 0
    have hBr_c1 := hBr.cell 1 rfl
    have hBr_f1 := hBr.frozen 1
    go_wp2_with fail
    refine (ent_readable E d.1 E.df.length d.2 _).mono ?_
    rintro e w2 ⟨rfl, hb2⟩
    have HD2 := hide (HD1.out.below hb2)
    by_cases hr : readE E.acc = 0
    · obtain ⟨gv, dv, hAv, _, _, hO, hfit, cv0, _, _⟩ := HD2.out.val hv
      subst hAv
      rw [hr]
      have HR := hide hr
      clear hr c0 c1 c2 c3 c4 c5 c6 c7 c8 c9 c10 zg hE hv
      clear hBr_c0 hBr_f0 hBr_c1 hBr_f1
      have hB2 := HD2.out.blk
      have hB2_c0 := hB2.cell 0 rfl
      have hB2_f0 := hB2.frozen 0
      have hB2_c1 := hB2.cell 1 rfl
      have hB2_f1 := hB2.frozen 1
      have HO := hide (hO.sl)
      clear hO
      go_wp2_with fail
      refine (dict_own dv.1 v.length dv.2 v _ rfl hfit HO.out).mono ?_
      rintro e w3 ⟨A3, c3, rfl, hO3, hb3⟩
      go_wp2_with fail
      go_ret2
      refine ⟨A3, v.length, c3, v, by rw [HE.out, HR.out]; rfl, hO3.mono (by have := hb1.size; have := hb2.size; omega), by rw [HE.out, HR.out, HV.out]; rfl, below_step hb3 (below_step hb2 hb1)⟩
    · have hr1 : readE E.acc = 100728833 := by unfold readE at *; split at hr <;> simp_all
      have HR := hide hr1
      rw [hr1]
      clear hr hr1
      go_wp2_with fail
      go_ret2
      refine ⟨none, 0, 0, [], by rw [HE.out, HR.out]; rfl, OwnB.nil _ _, by rw [HE.out, HR.out]; rfl, below_step hb2 hb1⟩
  · have HC : Hid (getC L ix sub = codeL L ix sub) := hide (by unfold getC; rw [if_neg (fun h => hf (code_zero.1 h))])
    have hcc : codeL L ix sub ≠ 0 := fun h => hf (code_zero.1 h)
    have HX := hide hcc
    obtain ⟨cc, hce⟩ : ∃ cc, cc = codeL L ix sub := ⟨_, rfl⟩
    have hcn : ¬ cc = 0 := by rw [hce]; exact hcc
    rw [← hce]
    have HE := hide hce
    clear hf hcc hce
    go_wp2_with fail
    go_ret2
    refine ⟨none, 0, 0, [], by rw [HC.out, ← HE.out]; rfl, OwnB.nil _ _, by rw [HC.out, if_neg HX.out], hb1⟩
theorem dict_get0 (ix sub : Int) (w : World) : Calls Try.prog 66 #[.pointer none, .int .i64 ix, .int .i64 sub] w fun e w' => e = .returned (.tuple #[.slice none 0 0, .int .u32 100925511]) ∧ Below w.heap.size w w' := by
  go_enter Try.func66, Try.ntmps66
  go_wp2_with fail
  refine (dict_locate0 ix sub _).mono ?_
  rintro e w1 ⟨rfl, rfl⟩
  go_wp2_with fail
  go_ret2
  exact ⟨rfl, Below.refl _ _⟩
def PeekR (L : List Ent) (V : List (List UInt8)) (ix sub : Int) (w : World) (e : Ending) (w' : World) : Prop :=
  ∃ A m c b, e = .returned (.tuple #[.slice A m c, .bool (hasL L ix sub)]) ∧ OwnB w' w.heap.size A m c b ∧ b = (if hasL L ix sub = true then valK V (locK L ix sub) else []) ∧ Below w.heap.size w w'
end
end
section
open Go.RowKit
set_option maxRecDepth 100000
set_option maxHeartbeats 2000000
section
variable {F : Nat → Prop} {p n cl cv : Nat} {Av : Option Addr} {L : List Ent} {V : List (List UInt8)} {ds es : List (Option Addr × Nat)} {gl : Nat}
theorem writeE_cases (acc : Int) : writeE acc = 0 ∨ writeE acc = 100728834 := by unfold writeE; split <;> simp
theorem dict_mayi (ix sub : Int) (any : Bool) (A : Option Addr) (m c : Nat) (b : List UInt8) (w : World) (hD : DB 75 w F p (some ⟨gl, 0, none⟩) n cl Av cv L V ds es) (hs : SortedE L) (hn : n ≤ 1000)
    (hm : m = b.length) (hc : m ≤ c) (hl : m ≤ 35184372088832) (hb : Sl w A (b.map bv)) :
    Calls Try.prog 86 #[.pointer (some ⟨p, 0, none⟩), .int .i64 ix, .int .i64 sub, .slice A m c, .bool any] w fun e w' => e = .returned (.tuple #[.int .i64 (locK L ix sub), .int .u32 (mayC L ix sub b any)]) ∧ Below w.heap.size w w' := by
  have HS := hide hs
  have HD := hide hD
  have HN := hide hD.ents.hn
  have HM := hide hm
  have HB := hide hb
  clear hs hD hm hb
  go_enter Try.func86, Try.ntmps86
  go_wp2_with fail
  refine (dict_locate ix sub _ HD.out HS.out hn).mono ?_
  rintro e w1 ⟨rfl, hb1⟩
  have HD1 := hide (HD.out.below hb1)
  have HB1 := hide (HB.out.below hb1)
  by_cases hf : 0 ≤ findL L ix sub
  · have hc0 : codeL L ix sub = 0 := code_zero.2 hf
    have hk := loc_lt hf
    obtain ⟨k, hkk⟩ : ∃ k, k = locK L ix sub := ⟨_, rfl⟩
    obtain ⟨E, hE⟩ : ∃ E, L[k]? = some E := ⟨L[k]'(by rw [hkk]; exact hk), List.getElem?_eq_getElem _⟩
    have hkn : k < n := by rw [hkk, HN.out]; exact hk
    have HC : Hid (mayC L ix sub b any = if any = false ∧ writeE E.acc ≠ 0 then writeE E.acc else valC E b) := hide (by unfold mayC; rw [if_pos hc0, ← hkk, entK_at hE])
    rw [hc0, ← hkk]
    have HKK := hide hkk
    clear hc0 hk hf hkk
    obtain ⟨g, d, hA, zg, _, _, _, c0, c1, c2, c3, c4, c5, c6, c7, c8, c9, c10⟩ := HD1.out.ent hE
    injection hA with hA
    injection hA with hA
    subst hA
    have hBr := HD1.out.blk
    have hBr_c0 := hBr.cell 0 rfl
    have hBr_f0 := hBr.frozen 0
    have hBr_c1 := hBr.cell 1 rfl
    have hBr_f1 := hBr.frozen 1
    cases any
    · go_wp2_with fail
      refine (ent_writable E d.1 E.df.length d.2 _).mono ?_
      rintro e w2 ⟨rfl, hb2⟩
      have HD2 := hide (HD1.out.below hb2)
      clear c0 c1 c2 c3 c4 c5 c6 c7 c8 c9 c10 zg
      clear hBr_c0 hBr_f0 hBr_c1 hBr_f1
      rcases writeE_cases E.acc with hw | hw
      · have HC2 : Hid (mayC L ix sub b false = valC E b) := hide (by rw [HC.out, hw]; rfl)
        rw [hw]
        clear hw
        obtain ⟨g, d', hA, zg, hd', _, _, c0, c1, c2, c3, c4, c5, c6, c7, c8, c9, c10⟩ := HD2.out.ent hE
        injection hA with hA
        injection hA with hA
        subst hA
        have hB2 := HD2.out.blk
        have hB2_c0 := hB2.cell 0 rfl
        have hB2_f0 := hB2.frozen 0
        have hB2_c1 := hB2.cell 1 rfl
        have hB2_f1 := hB2.frozen 1
        clear hE hd'
        go_wp2_with fail
        refine (ent_value E d'.1 E.df.length d'.2 A m c b _ HM.out hc hl (HB1.out.below hb2)).mono ?_
        rintro e w3 ⟨rfl, hb3⟩
        go_wp2_with fail
        go_ret2
        exact ⟨by rw [HC2.out, ← HKK.out]; rfl, below_step hb3 (below_step hb2 hb1)⟩
      · have HC2 : Hid (mayC L ix sub b false = 100728834) := hide (by rw [HC.out, hw]; rfl)
        rw [hw]
        clear hw
        go_wp2_with fail
        go_ret2
        exact ⟨by rw [HC2.out, ← HKK.out]; rfl, below_step hb2 hb1⟩
    · have HC2 : Hid (mayC L ix sub b true = valC E b) := hide (by rw [HC.out]; rfl)
      go_wp2_with fail
      refine (ent_value E d.1 E.df.length d.2 A m c b _ HM.out hc hl HB1.out).mono ?_
      rintro e w3 ⟨rfl, hb3⟩
      go_wp2_with fail
      go_ret2
      exact ⟨by rw [HC2.out, ← HKK.out]; rfl, below_step hb3 hb1⟩
  · have HC : Hid (mayC L ix sub b any = codeL L ix sub) := hide (by unfold mayC; rw [if_neg (fun h => hf (code_zero.1 h))])
    have hcc : codeL L ix sub ≠ 0 := fun h => hf (code_zero.1 h)
    obtain ⟨cc, hce⟩ : ∃ cc, cc = codeL L ix sub := ⟨_, rfl⟩
    have hcn : ¬ cc = 0 := by rw [hce]; exact hcc
    rw [← hce]
    have HE := hide hce
    clear hf hcc hce
    go_wp2_with fail
    go_ret2
    exact ⟨by rw [HC.out, ← HE.out]; rfl, hb1⟩
theorem dict_mayi0 (ix sub : Int) (any : Bool) (v : Value) (w : World) :
    Calls Try.prog 86 #[.pointer none, .int .i64 ix, .int .i64 sub, v, .bool any] w fun e w' => e = .returned (.tuple #[.int .i64 0, .int .u32 100925511]) ∧ w = w' := by
  go_enter Try.func86, Try.ntmps86
  go_wp2_with fail
  refine (dict_locate0 ix sub _).mono ?_
  rintro e w1 ⟨rfl, rfl⟩
  go_wp2_with fail
  go_ret2
  exact ⟨rfl, rfl⟩
theorem dict_may (ix sub : Int) (A : Option Addr) (m c : Nat) (b : List UInt8) (w : World) (hD : DB 75 w F p (some ⟨gl, 0, none⟩) n cl Av cv L V ds es) (hs : SortedE L) (hn : n ≤ 1000)
    (hm : m = b.length) (hc : m ≤ c) (hl : m ≤ 35184372088832) (hb : Sl w A (b.map bv)) :
    Calls Try.prog 77 #[.pointer (some ⟨p, 0, none⟩), .int .i64 ix, .int .i64 sub, .slice A m c] w fun e w' => e = .returned (.int .u32 (mayC L ix sub b false)) ∧ Below w.heap.size w w' := by
  have HC := hide (dict_mayi ix sub false A m c b w hD hs hn hm hc hl hb)
  clear hD hs hn hm hc hl hb
  go_enter Try.func77, Try.ntmps77
  go_wp2_with fail
  refine HC.out.mono ?_
  rintro e w1 ⟨rfl, hb1⟩
  go_wp2_with fail
  go_ret
  exact ⟨rfl, hb1⟩
theorem dict_may0 (ix sub : Int) (v : Value) (w : World) : Calls Try.prog 77 #[.pointer none, .int .i64 ix, .int .i64 sub, v] w fun e w' => e = .returned (.int .u32 100925511) ∧ w = w' := by
  go_enter Try.func77, Try.ntmps77
  go_wp2_with fail
  refine (dict_mayi0 ix sub false v _).mono ?_
  rintro e w1 ⟨rfl, rfl⟩
  go_wp2_with fail
  go_ret
  exact ⟨rfl, rfl⟩
/-- what a call that sets a value leaves: the dictionary in its old blocks and new ones -/
def PutR (F : Nat → Prop) (p gl n cl : Nat) (Av : Option Addr) (cv : Nat) (L : List Ent) (V : List (List UInt8)) (ds : List (Option Addr × Nat)) (ix sub : Int) (b : List UInt8) (any : Bool) (w : World) (e : Ending) (w' : World) : Prop :=
  ∃ V' es', e = .returned (.int .u32 (mayC L ix sub b any)) ∧ V' = putV L V ix sub b any ∧ DB 75 w' (fun g => F g ∨ w.heap.size ≤ g) p (some ⟨gl, 0, none⟩) n cl Av cv L V' ds es' ∧ Only F w w'
end
end
end Go.Proofs.Ytimdmhhgomfijaa

/- The reference of dictionaries: Find, missing, Get, May, Peek. -/
import Derived.Test.YtimdmhhgomfijaaGreatDicM
import Derived.Test.YtimdmhhgomfijaaGreatEntL
import Derived.Test.YtimdmhhgomfijaaGreatEntB
import Derived.Test.YtimdmhhgomfijaaGreatOctI
import Derived.Test.YtimdmhhgomfijaaGreatOct
import Derived.RegionTactic
import Derived.Deep.RegionHeld3
import Derived.Deep.Light
namespace Go.Proofs.YtimdmhhgomfijaaGreat
set_option linter.unusedVariables false
set_option linter.unusedSimpArgs false
set_option linter.unnecessarySimpa false
section
open Go.RowKit
set_option maxRecDepth 100000
set_option maxHeartbeats 2000000
theorem join_nil (A : Option Addr) (n c : Nat) (l : List UInt8) (w : World) (hn : n = l.length) (hl : n ≤ 35184372088832) (hs : Sl w A (l.map bv)) :
    Calls Tryz.prog 32 #[.slice none 0 0, .slice A n c] w fun e w' => ∃ A' c', e = .returned (.slice A' n c') ∧ OwnB w' w.heap.size A' n c' l ∧ Below w.heap.size w w' := by
  refine (join_any none A 0 n 0 c [] l w rfl hn (by omega) hl (Sl.nil _ _) hs).mono ?_
  rintro e w' ⟨A', n', c', rfl, hO, hb⟩
  have h1 : n' = n := by have := hO.hn; simp at this; omega
  subst h1
  exact ⟨A', c', rfl, hO, hb⟩
section
variable {F : Nat → Prop} {p n cl cv : Nat} {Al Av : Option Addr} {L : List Ent} {V : List (List UInt8)} {ds es : List (Option Addr × Nat)}
theorem drop_cons {α : Type} {L : List α} {k : Nat} {x : α} (h : L[k]? = some x) : L.drop k = x :: L.drop (k + 1) := by
  obtain ⟨hk, rfl⟩ := List.getElem?_eq_some_iff.1 h
  exact List.drop_eq_getElem_cons hk
theorem rdic_find (ix sub : Int) (w : World) (hD : DB 82 w F p Al n cl Av cv L V ds es) (hn : n ≤ 1000) :
    Calls Tryz.prog 76 #[.pointer (some ⟨p, 0, none⟩), .int .i64 ix, .int .i64 sub] w fun e w' => e = .returned (.int .i64 (findL L ix sub)) ∧ w = w' := by
  have HD := hide hD
  have HN := hide hD.ents.hn
  have hB := hD.blk
  clear hD
  obtain ⟨hB_c0, hB_c1⟩ := cel2 hB
  have hB_f := hB.frozen
  go_enter Tryz.func76, Tryz.ntmps76
  go_wp2_with fail
  go_loopw [7, 8] (fun s7 s8 wr => ∃ (k : Nat) (kk : Int), k ≤ n ∧ s7 = .int .i64 kk ∧ s8 = .int .i64 (k : Nat) ∧ Hid (findA (L.drop k) ix sub k kk = findL L ix sub) ∧ w = wr) (fun _ s8 _ => n - (intOf s8).toNat)
  case atStart => exact ⟨0, -2, by omega, rfl, rfl, hide rfl, rfl⟩
  case round =>
    obtain ⟨k, kk, hk, rfl, rfl, HA, rfl⟩ := hrel
    by_cases hlt : k < n
    · obtain ⟨E, hE⟩ : ∃ E, L[k]? = some E := ⟨L[k]'(by rw [← HN.out]; exact hlt), List.getElem?_eq_getElem _⟩
      obtain ⟨g, d, rfl, zg, _, _, _, c0, c1, c2, c3, c4, c5, c6, c7, c8, c9, c10⟩ := HD.out.ent hE
      have HAE : Hid (findA (L.drop (k + 1)) ix sub (k + 1) (if E.ix ≠ ix then kk else if E.sub = sub then (k : Int) else if kk = -2 then -1 else kk) = findL L ix sub) := hide (by rw [← HA.out, drop_cons hE]; rfl)
      clear hE c2 c3 c4 c5 c6 c7 c8 c9 c10 HA
      by_cases h1 : E.ix = ix
      · by_cases h2 : E.sub = sub
        · have HA2 : Hid (findA (L.drop (k + 1)) ix sub (k + 1) (k : Int) = findL L ix sub) := hide (by have := HAE.out; rw [if_neg (by simpa using h1), if_pos h2] at this; exact this)
          by_cases h3 : kk = -2
          all_goals
            go_wp2_with fail
            go_roundw
            case rel => exact ⟨k + 1, k, by omega, by rfl, by go_num, HA2, by trivial⟩
            case measure => simp [intOf]; omega
        · by_cases h3 : kk = -2
          · have HA2 : Hid (findA (L.drop (k + 1)) ix sub (k + 1) (-1) = findL L ix sub) := hide (by have := HAE.out; rw [if_neg (by simpa using h1), if_neg h2, if_pos h3] at this; exact this)
            go_wp2_with fail
            go_roundw
            case rel => exact ⟨k + 1, -1, by omega, by rfl, by go_num, HA2, by trivial⟩
            case measure => simp [intOf]; omega
          · have HA2 : Hid (findA (L.drop (k + 1)) ix sub (k + 1) kk = findL L ix sub) := hide (by have := HAE.out; rw [if_neg (by simpa using h1), if_neg h2, if_neg h3] at this; exact this)
            go_wp2_with fail
            go_roundw
            case rel => exact ⟨k + 1, kk, by omega, by rfl, by go_num, HA2, by trivial⟩
            case measure => simp [intOf]; omega
      · have HA2 : Hid (findA (L.drop (k + 1)) ix sub (k + 1) kk = findL L ix sub) := hide (by have := HAE.out; rw [if_pos h1] at this; exact this)
        go_wp2_with fail
        go_roundw
        case rel => exact ⟨k + 1, kk, by omega, by rfl, by go_num, HA2, by trivial⟩
        case measure => simp [intOf]; omega
    · have hkn : k = n := by omega
      have HA2 : Hid (kk = findL L ix sub) := hide (by have := HA.out; rw [List.drop_eq_nil_of_le (by rw [hkn, HN.out]; exact Nat.le_refl _)] at this; exact this)
      go_wp2_with fail
      go_ret
      exact ⟨ret_int HA2.out, rfl⟩
theorem rdic_missing (k : Int) (w : World) : Calls Tryz.prog 120 #[.int .i64 k] w fun e w' => e = .returned (.int .u32 (if k = -2 then 100794368 else 101253137)) ∧ w = w' := by
  by_cases h : k = -2
  · subst h
    go_enter Tryz.func120, Tryz.ntmps120
    go_wp2_with fail
    go_ret
    exact ⟨rfl, rfl⟩
  · have HR : Hid ((if k = -2 then (100794368 : Int) else 101253137) = 101253137) := hide (if_neg h)
    go_enter Tryz.func120, Tryz.ntmps120
    go_wp2_with fail
    go_ret
    first | exact ⟨rfl, rfl⟩ | exact ⟨ret_int HR.out.symm, rfl⟩
theorem code_missing {L : List Ent} {ix sub : Int} (h : ¬ 0 ≤ findL L ix sub) : (if findL L ix sub = -2 then (100794368 : Int) else 101253137) = codeL L ix sub := by unfold codeL; rw [if_neg h]
end
end
section
open Go.RowKit
set_option maxRecDepth 100000
set_option maxHeartbeats 2000000
section
variable {F : Nat → Prop} {p n cl cv : Nat} {Al Av : Option Addr} {L : List Ent} {V : List (List UInt8)} {ds es : List (Option Addr × Nat)}
theorem readE_cases (acc : Int) : readE acc = 0 ∨ readE acc = 100728833 := by unfold readE; split <;> simp
def RGetR (L : List Ent) (V : List (List UInt8)) (ix sub : Int) (w : World) (e : Ending) (w' : World) : Prop :=
  ∃ A m c b, e = .returned (.tuple #[.slice A m c, .int .u32 (getC L ix sub)]) ∧ OwnB w' w.heap.size A m c b ∧ b = (if getC L ix sub = 0 then valK V (locK L ix sub) else []) ∧ Below w.heap.size w w'
theorem rdic_get (ix sub : Int) (w : World) (hD : DB 82 w F p Al n cl Av cv L V ds es) (hn : n ≤ 1000) :
    Calls Tryz.prog 118 #[.pointer (some ⟨p, 0, none⟩), .int .i64 ix, .int .i64 sub] w (RGetR L V ix sub w) := by
  have HD := hide hD
  have HN := hide hD.ents.hn
  have HLV := hide hD.lenV
  by_cases hf : 0 ≤ findL L ix sub
  · obtain ⟨k, hk, hlk, hkl⟩ := find_nat hf
    obtain ⟨E, hE⟩ : ∃ E, L[k]? = some E := ⟨L[k], List.getElem?_eq_getElem _⟩
    obtain ⟨v, hv⟩ : ∃ v, V[k]? = some v := ⟨V[k]'(by rw [HLV.out]; exact hkl), List.getElem?_eq_getElem _⟩
    have hkn : k < n := by rw [HN.out]; exact hkl
    have HE : Hid (getC L ix sub = readE E.acc) := hide (by unfold getC; rw [if_pos (code_zero.2 hf), hlk, entK_at hE])
    have HV : Hid (valK V (locK L ix sub) = v) := hide (by rw [hlk, valK_at hv])
    have HK := hide hk
    obtain ⟨g, d, rfl, zg, _, _, _, c0, c1, c2, c3, c4, c5, c6, c7, c8, c9, c10⟩ := hD.ent hE
    have hBr := hD.blk
    clear hD hf hlk hkl hE hk
    obtain ⟨hBr_c0, hBr_c1⟩ := cel2 hBr
    have hBr_f := hBr.frozen
    go_enter Tryz.func118, Tryz.ntmps118
    go_wp2_with fail
    refine (rdic_find ix sub _ HD.out hn).mono ?_
    rintro e w1 ⟨rfl, rfl⟩
    rw [HK.out]
    go_wp2_with fail
    refine (rent_readable E d.1 E.df.length d.2 _).mono ?_
    rintro e w2 ⟨rfl, hb2⟩
    have HD2 := hide (HD.out.below hb2)
    clear c0 c1 c2 c3 c4 c5 c6 c7 c8 c9 c10 zg
    clear hBr_c0 hBr_c1 hBr_f
    rcases readE_cases E.acc with hr | hr
    · rw [hr]
      have HR := hide hr
      clear hr
      obtain ⟨gv, dv, rfl, _, _, hO, hfit, cv0, _, _⟩ := HD2.out.val hv
      have hB2 := HD2.out.blk
      obtain ⟨hB2_c0, hB2_c1⟩ := cel2 hB2
      have hB2_f := hB2.frozen
      have HO := hide hO.sl
      clear hO hv
      go_wp2_with fail
      refine (join_nil dv.1 v.length dv.2 v _ rfl hfit HO.out).mono ?_
      rintro e w3 ⟨A3, c3, rfl, hO3, hb3⟩
      go_wp2_with fail
      go_ret2
      refine ⟨A3, v.length, c3, v, by rw [HE.out, HR.out]; rfl, hO3.mono hb2.size, by rw [HE.out, HR.out, HV.out]; rfl, below_step hb3 hb2⟩
    · rw [hr]
      have HR := hide hr
      clear hr
      go_wp2_with fail
      go_ret2
      refine ⟨none, 0, 0, [], by rw [HE.out, HR.out]; rfl, OwnB.nil _ _, by rw [HE.out, HR.out]; rfl, hb2⟩
  · have HC : Hid (getC L ix sub = codeL L ix sub) := hide (by unfold getC; rw [if_neg (fun h => hf (code_zero.1 h))])
    have HX : Hid (codeL L ix sub ≠ 0) := hide (fun h => hf (code_zero.1 h))
    have HM := hide (code_missing hf)
    have hf' : findL L ix sub < 0 := by omega
    clear hf hD
    go_enter Tryz.func118, Tryz.ntmps118
    go_wp2_with fail
    refine (rdic_find ix sub _ HD.out hn).mono ?_
    rintro e w1 ⟨rfl, rfl⟩
    go_wp2_with fail
    refine (rdic_missing _ _).mono ?_
    rintro e w1 ⟨rfl, rfl⟩
    rw [HM.out]
    go_wp2_with fail
    go_ret2
    refine ⟨none, 0, 0, [], by rw [HC.out]; rfl, OwnB.nil _ _, by rw [HC.out, if_neg HX.out], Below.refl _ _⟩
def RPeekR (L : List Ent) (V : List (List UInt8)) (ix sub : Int) (w : World) (e : Ending) (w' : World) : Prop :=
  ∃ A m c b, e = .returned (.tuple #[.slice A m c, .bool (hasL L ix sub)]) ∧ OwnB w' w.heap.size A m c b ∧ b = (if hasL L ix sub = true then valK V (locK L ix sub) else []) ∧ Below w.heap.size w w'
theorem rdic_may (ix sub : Int) (A : Option Addr) (m c : Nat) (b : List UInt8) (w : World) (hD : DB 82 w F p Al n cl Av cv L V ds es) (hn : n ≤ 1000)
    (hm : m = b.length) (hc : m ≤ c) (hl : m ≤ 35184372088832) (hb : Sl w A (b.map bv)) :
    Calls Tryz.prog 75 #[.pointer (some ⟨p, 0, none⟩), .int .i64 ix, .int .i64 sub, .slice A m c] w fun e w' => e = .returned (.int .u32 (mayC L ix sub b false)) ∧ Below w.heap.size w w' := by
  have HD := hide hD
  have HN := hide hD.ents.hn
  have HM := hide hm
  have HB := hide hb
  clear hm hb
  by_cases hf : 0 ≤ findL L ix sub
  · obtain ⟨k, hk, hlk, hkl⟩ := find_nat hf
    obtain ⟨E, hE⟩ : ∃ E, L[k]? = some E := ⟨L[k], List.getElem?_eq_getElem _⟩
    have hkn : k < n := by rw [HN.out]; exact hkl
    have HC : Hid (mayC L ix sub b false = if writeE E.acc ≠ 0 then writeE E.acc else valC E b) := hide (by unfold mayC; rw [if_pos (code_zero.2 hf), hlk, entK_at hE]; simp)
    have HK := hide hk
    have HE := hide hE
    obtain ⟨g, d, rfl, zg, _, _, _, c0, c1, c2, c3, c4, c5, c6, c7, c8, c9, c10⟩ := hD.ent hE
    have hBr := hD.blk
    clear hD hf hlk hkl hE hk
    obtain ⟨hBr_c0, hBr_c1⟩ := cel2 hBr
    have hBr_f := hBr.frozen
    go_enter Tryz.func75, Tryz.ntmps75
    go_wp2_with fail
    refine (rdic_find ix sub _ HD.out hn).mono ?_
    rintro e w1 ⟨rfl, rfl⟩
    rw [HK.out]
    go_wp2_with fail
    refine (rent_writable E d.1 E.df.length d.2 _).mono ?_
    rintro e w2 ⟨rfl, hb2⟩
    have HD2 := hide (HD.out.below hb2)
    clear c0 c1 c2 c3 c4 c5 c6 c7 c8 c9 c10 zg
    clear hBr_c0 hBr_c1 hBr_f
    rcases (show writeE E.acc = 0 ∨ writeE E.acc = 100728834 by unfold writeE; split <;> simp) with hw | hw
    · have HC2 : Hid (mayC L ix sub b false = valC E b) := hide (by rw [HC.out, hw]; rfl)
      rw [hw]
      clear hw
      obtain ⟨g, d', hA, zg, hd', _, _, c0, c1, c2, c3, c4, c5, c6, c7, c8, c9, c10⟩ := HD2.out.ent HE.out
      injection hA with hA
      injection hA with hA
      subst hA
      have hB2 := HD2.out.blk
      obtain ⟨hB2_c0, hB2_c1⟩ := cel2 hB2
      have hB2_f := hB2.frozen
      clear hd'
      go_wp2_with fail
      refine (rent_value E d'.1 E.df.length d'.2 A m c b _ HM.out hc hl (HB.out.below hb2)).mono ?_
      rintro e w3 ⟨rfl, hb3⟩
      go_wp2_with fail
      go_ret
      exact ⟨by rw [HC2.out]; rfl, below_step hb3 hb2⟩
    · have HC2 : Hid (mayC L ix sub b false = 100728834) := hide (by rw [HC.out, hw]; rfl)
      rw [hw]
      clear hw
      go_wp2_with fail
      go_ret
      exact ⟨by rw [HC2.out]; rfl, hb2⟩
  · have HC : Hid (mayC L ix sub b false = codeL L ix sub) := hide (by unfold mayC; rw [if_neg (fun h => hf (code_zero.1 h))])
    have HMS := hide (code_missing hf)
    have hf' : findL L ix sub < 0 := by omega
    clear hf hD
    go_enter Tryz.func75, Tryz.ntmps75
    go_wp2_with fail
    refine (rdic_find ix sub _ HD.out hn).mono ?_
    rintro e w1 ⟨rfl, rfl⟩
    go_wp2_with fail
    refine (rdic_missing _ _).mono ?_
    rintro e w1 ⟨rfl, rfl⟩
    rw [HMS.out]
    go_wp2_with fail
    go_ret
    exact ⟨by rw [HC.out]; rfl, Below.refl _ _⟩
end
end
end Go.Proofs.YtimdmhhgomfijaaGreat

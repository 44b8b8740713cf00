/- Law package 21: parts. -/
import Derived.Test.YtimdmhhgomfijaaSegA
namespace Go.Proofs.Ytimdmhhgomfijaa
set_option linter.unusedVariables false
set_option linter.unusedSimpArgs false
set_option linter.unnecessarySimpa false
open Go.RowKit
set_option maxRecDepth 100000
set_option maxHeartbeats 4000000
/-- a part: a slice, and the bytes that it holds in w and in every later world -/
abbrev Ch := Option Addr × Nat × Nat × List UInt8
def chV (x : Ch) : Value := .slice x.1 x.2.1 x.2.2.1
def ChOk (w : World) (x : Ch) : Prop := x.2.1 = x.2.2.2.length ∧ x.2.1 ≤ x.2.2.1 ∧ ∀ W, Below w.heap.size w W → Sl W x.1 (x.2.2.2.map bv)
def chB (xs : List Ch) : List UInt8 := xs.flatMap (fun x => x.2.2.2)
theorem chB_snoc (xs : List Ch) (x : Ch) : chB (xs ++ [x]) = chB xs ++ x.2.2.2 := by simp [chB]
def slLen : Value → Nat
  | .slice _ n _ => n
  | _ => 0
theorem infoBs : (Try.prog.info? 22).map (fun i => (i.zero, i.size, i.bytes)) = some (some (.slice none 0 0), 1, 24) := by kernel_rfl
def PartR (w0 w : World) (B : List UInt8) (e : Ending) (w' : World) : Prop :=
  ∃ As ns cs xs, e = .returned (.slice As ns cs) ∧ ns = xs.length ∧ 0 < ns ∧ ns ≤ 1300 ∧ Own w' w.heap.size 22 1 As ns cs (xs.map chV) ∧ (∀ x ∈ xs, ChOk w0 x) ∧ chB xs = B ∧ Below w.heap.size w w'
def PartL (w0 w : World) (B : List UInt8) (vb vo vi : Value) (wr : World) : Prop :=
  ∃ (k : Nat) (Ar : Option Addr) (nr cr : Nat) (R : List UInt8) (As : Option Addr) (cs : Nat) (xs : List Ch),
    vb = .slice Ar nr cr ∧ vo = .slice As k cs ∧ vi = .int .i64 (k : Nat) ∧ k = xs.length ∧ nr = R.length ∧ nr ≤ 1000 ∧ k + nr ≤ 1201 ∧ nr ≤ cr ∧ (∀ W, Below w0.heap.size w0 W → Sl W Ar (R.map bv)) ∧
    Own wr w.heap.size 22 1 As k cs (xs.map chV) ∧ (∀ x ∈ xs, ChOk w0 x) ∧ chB xs ++ R = B ∧ Below w.heap.size w wr
theorem partL_next {w0 w w' : World} {B : List UInt8} {k : Nat} {Ar : Option Addr} {nr cr : Nat} {R : List UInt8} {xs : List Ch} {As : Option Addr} {cs : Nat} (m : Nat)
    (hk : k = xs.length) (hn : nr = R.length) (h1 : nr ≤ 1000) (h2 : k + 1 + (nr - m) ≤ 1201) (hc : nr ≤ cr) (hR : ∀ W, Below w0.heap.size w0 W → Sl W Ar (R.map bv)) (hm : m ≤ nr) (hx : ∀ x ∈ xs, ChOk w0 x) (hB : chB xs ++ R = B)
    (hO : Own w' w.heap.size 22 1 As (k + 1) cs (xs.map chV ++ [.slice Ar m cr])) (hb : Below w.heap.size w w') (vb vo vi : Value) (hvb : vb = .slice (cutA Ar cr m 1) (nr - m) (cr - m)) (hvo : vo = .slice As (k + 1) cs) (hvi : vi = .int .i64 ((k + 1 : Nat) : Int)) :
    PartL w0 w B vb vo vi w' := by
  subst hvb hvo
  refine ⟨k + 1, _, _, _, R.drop m, _, _, xs ++ [(Ar, m, cr, R.take m)], rfl, rfl, hvi, by simp [hk], by simp [hn], by omega, h2, by omega, fun W h => ?_, by rw [List.map_append]; exact hO, ?_, by rw [chB_snoc, List.append_assoc]; simp only [List.take_append_drop]; exact hB, hb⟩
  · have := (hR W h).cut1 (k := m) (c := cr) (by simp; omega)
    rw [← List.map_drop] at this
    exact this
  · intro x hxx
    rcases List.mem_append.1 hxx with h | h
    · exact hx x h
    · simp at h
      subst h
      exact ⟨by simp; omega, by simp only; omega, fun W h => by rw [List.map_take]; exact (hR W h).take_ m⟩
theorem parts_21 (A : Option Addr) (n c : Nat) (B : List UInt8) (A2 : Option Addr) (n2 c2 : Nat) (lens : List UInt8) (w0 w : World) (hn : n = B.length) (hc : n ≤ c) (h1 : n ≤ 1000) (hB : ∀ W, Below w0.heap.size w0 W → Sl W A (B.map bv)) (hn2 : n2 = lens.length) (h2 : n2 ≤ 200) (hL : Sl w A2 (lens.map bv)) :
    Calls Try.prog 15 #[.slice A n c, .slice A2 n2 c2] w (PartR w0 w B) := by
  obtain ⟨P, hP⟩ : ∃ P, P = PartR w0 w B := ⟨_, rfl⟩
  rw [← hP]
  have HP := hide hP
  have HN := hide hn
  have HB := hide hB
  have HL := hide hL
  have HN2 := hide hn2
  have HC := hide hc
  obtain ⟨i0, hi0, hz0, hz1, hz2⟩ := info_parts infoBs
  clear hP hn hB hL hn2 hc
  go_enter Try.func15, Try.ntmps15
  go_wp2_with fail
  go_loopw [0, 5, 6, 7] (fun vb vo vi v7 wr => PartL w0 w B vb vo vi wr) (fun vb _ vi _ _ => (201 - (intOf vi).toNat) + slLen vb)
  case atStart => exact ⟨0, A, n, c, B, none, 0, [], rfl, rfl, rfl, rfl, HN.out, h1, by omega, HC.out, HB.out, Own.nil _ _ _ _, by simp, rfl, Below.refl _ _⟩
  case round =>
    obtain ⟨k, Ar, nr, cr, R, As, cs, xs, rfl, rfl, rfl, hk, hnr, hnr1, hknr, hcr, hR, hO, hxs, hBB, hbr⟩ := hrel
    have HK := hide hk
    have HNR := hide hnr
    have HR := hide hR
    have HO := hide hO
    have HXS := hide hxs
    have HBB := hide hBB
    have HBR := hide hbr
    have zwr := hbr.size
    clear hk hnr hR hO hxs hBB hbr
    by_cases hgo : k = 0 ∨ 0 < nr
    · rcases (show (nr = 0 ∧ k = 0) ∨ 0 < nr by omega) with ⟨rfl, rfl⟩ | hpos
      · by_cases hk2 : 0 < n2
        · obtain ⟨z, hz⟩ : ∃ z, lens[0]? = some z := ⟨lens[0]'(by rw [← HN2.out]; exact hk2), List.getElem?_eq_getElem _⟩
          obtain ⟨gL, hA2, hcell⟩ := (HL.out.below HBR.out) 0 (bv z) (by simp [hz])
          subst hA2
          replace hcell : wr.cell? (gL.add 0) = some (.int .u8 ((z.toNat : Nat) : Int)) := hcell
          have HZ := hide hz
          have hz8 : z.toNat < 256 := z.toNat_lt
          clear hz
          have hmin : (if (0 : Int) < (z.toNat : Int) % 8 then (0 : Int) else (z.toNat : Int) % 8) = 0 := by split <;> omega
          have hcell0 : wr.cell? gL = some (.int .u8 ((z.toNat : Nat) : Int)) := by rw [← hcell]; obtain ⟨b, o, s⟩ := gL; cases s <;> simp [Addr.add]
          clear hcell
          go_wp2_with (at_builtin; refine wpList_app _ rfl _ _ _ rfl w.heap.size 22 i0 _ 1 24 Try.underlying46 hi0 hz0 hz1 hz2 rfl (by omega) _ _ _ _ rfl (HO.out.alloc _) _ _ _ _ rfl rfl (Sl.one _ _ _) (by intro u hu; simp at hu; subst hu; rfl) (by unfold maxLen; omega) (by omega) (by simp; omega) (0 + 1) rfl _ rfl ?_; intro A4 c4 w4 hO4 hg4 hA4 hb4)
          go_roundw
          case rel =>
            refine partL_next (k := 0) (nr := 0) 0 HK.out HNR.out (by omega) (by omega) (by omega) HR.out (by omega) HXS.out HBB.out hO4 ((below_alloc HBR.out _).trans hb4) _ _ _ (by simp [cutA, map_add0]) (by simp) (by go_num)
          case measure => simp [intOf, slLen] <;> omega
        · go_wp2_with (at_builtin; refine wpList_app _ rfl _ _ _ rfl w.heap.size 22 i0 _ 1 24 Try.underlying46 hi0 hz0 hz1 hz2 rfl (by omega) _ _ _ _ rfl (HO.out.alloc _) _ _ _ _ rfl rfl (Sl.one _ _ _) (by intro u hu; simp at hu; subst hu; rfl) (by unfold maxLen; omega) (by omega) (by simp; omega) (0 + 1) rfl _ rfl ?_; intro A4 c4 w4 hO4 hg4 hA4 hb4)
          go_roundw
          case rel =>
            refine partL_next (k := 0) (nr := 0) 0 HK.out HNR.out (by omega) (by omega) (by omega) HR.out (by omega) HXS.out HBB.out hO4 ((below_alloc HBR.out _).trans hb4) _ _ _ (by simp [cutA, map_add0]) (by simp) (by go_num)
          case measure => simp [intOf, slLen] <;> omega
      · clear hgo
        have hpos' : ¬ nr = 0 := by omega
        by_cases hk2 : k < n2
        · obtain ⟨z, hz⟩ : ∃ z, lens[k]? = some z := ⟨lens[k]'(by rw [← HN2.out]; exact hk2), List.getElem?_eq_getElem _⟩
          obtain ⟨gL, hA2, hcell⟩ := (HL.out.below HBR.out) k (bv z) (by simp [hz])
          subst hA2
          replace hcell : wr.cell? (gL.add k) = some (.int .u8 ((z.toNat : Nat) : Int)) := hcell
          have HZ := hide hz
          have hz8 : z.toNat < 256 := z.toNat_lt
          clear hz
          obtain ⟨m, hm⟩ : ∃ m, m = min (z.toNat % 8) nr := ⟨_, rfl⟩
          have hmn : m ≤ nr := by omega
          have hmin : (if (nr : Int) < (z.toNat : Int) % 8 then (nr : Int) else (z.toNat : Int) % 8) = (m : Int) := by split <;> omega
          clear hm
          go_wp2_with (at_builtin; refine wpList_app _ rfl _ _ _ rfl w.heap.size 22 i0 _ 1 24 Try.underlying46 hi0 hz0 hz1 hz2 rfl (by omega) _ _ _ _ rfl (HO.out.alloc _) _ _ _ _ rfl rfl (Sl.one _ _ _) (by intro u hu; simp at hu; subst hu; rfl) (by unfold maxLen; omega) (by omega) (by simp; omega) (k + 1) rfl _ rfl ?_; intro A4 c4 w4 hO4 hg4 hA4 hb4)
          go_roundw
          case rel =>
            refine partL_next (k := k) (nr := nr) m HK.out HNR.out (by omega) (by omega) (by omega) HR.out (by omega) HXS.out HBB.out hO4 ((below_alloc HBR.out _).trans hb4) _ _ _ (by simp [cutA, map_add0]) (by simp) (by go_num)
          case measure => simp [intOf, slLen] <;> omega
        · obtain ⟨m, hm⟩ : ∃ m, m = min 7 nr := ⟨_, rfl⟩
          have hmn : m ≤ nr := by omega
          have hm7 : m ≤ 7 := by omega
          have hm0 : 0 < m := by omega
          have hmin : (if (nr : Int) < 7 then (nr : Int) else 7) = (m : Int) := by split <;> omega
          clear hm
          by_cases hk3 : 200 < k
          · go_wp2_with (at_builtin; refine wpList_app _ rfl _ _ _ rfl w.heap.size 22 i0 _ 1 24 Try.underlying46 hi0 hz0 hz1 hz2 rfl (by omega) _ _ _ _ rfl (HO.out.alloc _) _ _ _ _ rfl rfl (Sl.one _ _ _) (by intro u hu; simp at hu; subst hu; rfl) (by unfold maxLen; omega) (by omega) (by simp; omega) (k + 1) rfl _ rfl ?_; intro A4 c4 w4 hO4 hg4 hA4 hb4)
            go_roundw
            case rel =>
              refine partL_next (k := k) (nr := nr) m HK.out HNR.out (by omega) (by omega) (by omega) HR.out (by omega) HXS.out HBB.out hO4 ((below_alloc HBR.out _).trans hb4) _ _ _ (by simp [cutA, map_add0]) (by simp) (by go_num)
            case measure => simp [intOf, slLen] <;> omega
          · go_wp2_with (at_builtin; refine wpList_app _ rfl _ _ _ rfl w.heap.size 22 i0 _ 1 24 Try.underlying46 hi0 hz0 hz1 hz2 rfl (by omega) _ _ _ _ rfl (HO.out.alloc _) _ _ _ _ rfl rfl (Sl.one _ _ _) (by intro u hu; simp at hu; subst hu; rfl) (by unfold maxLen; omega) (by omega) (by simp; omega) (k + 1) rfl _ rfl ?_; intro A4 c4 w4 hO4 hg4 hA4 hb4)
            go_roundw
            case rel =>
              refine partL_next (k := k) (nr := nr) m HK.out HNR.out (by omega) (by omega) (by omega) HR.out (by omega) HXS.out HBB.out hO4 ((below_alloc HBR.out _).trans hb4) _ _ _ (by simp [cutA, map_add0]) (by simp) (by go_num)
            case measure => simp [intOf, slLen] <;> omega
    · have h0 : nr = 0 := by omega
      have hk0 : ¬ k = 0 := by omega
      subst h0
      clear hgo
      go_wp2_with fail
      rw [HP.out]
      refine ⟨As, k, cs, xs, rfl, HK.out, by omega, by omega, HO.out, HXS.out, ?_, HBR.out⟩
      rw [← HBB.out, List.length_eq_zero_iff.1 HNR.out.symm, List.append_nil]
end Go.Proofs.Ytimdmhhgomfijaa

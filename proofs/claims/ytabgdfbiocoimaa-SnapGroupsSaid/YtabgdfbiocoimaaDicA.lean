/- Package dict: own, held, there, Len, at, in. -/
import Derived.Test.YtabgdfbiocoimaaDicM
import Derived.Test.YtabgdfbiocoimaaDicP
import Derived.Test.YtabgdfbiocoimaaEntB
import Derived.RegionTactic
import Derived.Deep.RegionHeld3
import Derived.Deep.Light
namespace Go.Proofs.Ytabgdfbiocoimaa
set_option linter.unusedVariables false
set_option linter.unusedSimpArgs false
set_option linter.unnecessarySimpa false
open Go.RowKit
set_option maxRecDepth 100000
set_option maxHeartbeats 2000000

theorem dict_own (A : Option Addr) (n c : Nat) (l : List UInt8) (w : World) (hn : n = l.length) (hl : n ≤ 35184372088832) (hs : Sl w A (l.map bv)) :
    Calls Try.prog 54 #[.slice A n c] w fun e w' => ∃ A' c', e = .returned (.slice A' n c') ∧ OwnB w' w.heap.size A' n c' l ∧ Below w.heap.size w w' := by
  have H1 := hide hn
  clear hn
  go_enter Try.func54, Try.ntmps54
  go_wp2_with (at_builtin; refine app_b _ rfl _ (.tmp 3) rfl w.heap.size _ _ _ _ rfl (OwnB.nil _ _) _ _ _ l rfl H1.out hs (by omega) (Nat.le_refl _) n (by omega) ?_; intro A3 c3 w3 hown3 _ _ hb3)
  go_ret
  exact ⟨_, _, rfl, by simpa using hown3, hb3⟩
def PtrV (p : Nat) : Value := .pointer (some ⟨p, 0, none⟩)
section
variable {F : Nat → Prop} {p n cl cv : Nat} {Av : Option Addr} {L : List Ent} {V : List (List UInt8)} {ds es : List (Option Addr × Nat)} {gl : Nat}
theorem dict_there (w : World) (hB : Blk w p 86 #[.slice (some ⟨gl, 0, none⟩) n cl, .slice Av n cv]) :
    Calls Try.prog 59 #[.pointer (some ⟨p, 0, none⟩)] w fun e w' => e = .returned (.bool true) ∧ w = w' := by
  have hB_c0 := hB.cell 0 rfl
  have hB_f0 := hB.frozen 0
  have hB_c1 := hB.cell 1 rfl
  have hB_f1 := hB.frozen 1
  go_enter Try.func59, Try.ntmps59
  go_wp2_with fail
  go_ret
  exact ⟨rfl, rfl⟩
theorem dict_there0 (w : World) : Calls Try.prog 59 #[.pointer none] w fun e w' => e = .returned (.bool false) ∧ w = w' := by
  go_enter Try.func59, Try.ntmps59
  go_wp2_with fail
  go_ret
  exact ⟨rfl, rfl⟩
theorem dict_len (w : World) (hB : Blk w p 86 #[.slice (some ⟨gl, 0, none⟩) n cl, .slice Av n cv]) :
    Calls Try.prog 19 #[.pointer (some ⟨p, 0, none⟩)] w fun e w' => e = .returned (.int .i64 n) ∧ w = w' := by
  have HT := hide (dict_there w hB)
  have hB_c0 := hB.cell 0 rfl
  have hB_f0 := hB.frozen 0
  have hB_c1 := hB.cell 1 rfl
  have hB_f1 := hB.frozen 1
  go_enter Try.func19, Try.ntmps19
  go_wp2_with fail
  refine HT.out.mono ?_
  rintro e w1 ⟨rfl, rfl⟩
  go_wp2_with fail
  go_ret
  exact ⟨rfl, rfl⟩
theorem dict_len0 (w : World) : Calls Try.prog 19 #[.pointer none] w fun e w' => e = .returned (.int .i64 0) ∧ w = w' := by
  go_enter Try.func19, Try.ntmps19
  go_wp2_with fail
  refine (dict_there0 _).mono ?_
  rintro e w1 ⟨rfl, rfl⟩
  go_wp2_with fail
  go_ret
  exact ⟨rfl, rfl⟩
theorem dict_at (k : Nat) (ix sub : Int) (w : World) (hD : DB 86 w F p (some ⟨gl, 0, none⟩) n cl Av cv L V ds es) :
    Calls Try.prog 61 #[.pointer (some ⟨p, 0, none⟩), .int .i64 k, .int .i64 ix, .int .i64 sub] w fun e w' => e = .returned (.bool (hereB L[k]? ix sub)) ∧ w = w' := by
  have HL := hide (dict_len w hD.blk)
  have hB := hD.blk
  have hn := hD.ents.hn
  by_cases hk : k < n
  · obtain ⟨E, hE⟩ : ∃ E, L[k]? = some E := ⟨L[k]'(by omega), List.getElem?_eq_getElem _⟩
    obtain ⟨g, d, hA, hlt, hd, hO, hfit, c0, c1, c2, c3, c4, c5, c6, c7, c8, c9, c10⟩ := hD.ent hE
    injection hA with hA
    injection hA with hA
    subst hA
    rw [hE]
    clear c2 c3 c4 c5 c6 c7 c8 c9 c10
    clear hn hE hd hO hfit hD hlt
    have hB_c0 := hB.cell 0 rfl
    have hB_f0 := hB.frozen 0
    have hB_c1 := hB.cell 1 rfl
    have hB_f1 := hB.frozen 1
    go_enter Try.func61, Try.ntmps61
    go_wp2_with fail
    refine HL.out.mono ?_
    rintro e w1 ⟨rfl, rfl⟩
    go_wp2_with fail
    all_goals (go_ret; refine ⟨ret_bool ?_, rfl⟩; go_light; simp_all [hereB]; try (rw [Bool.eq_iff_iff]; simp))
  · have hE : L[k]? = none := List.getElem?_eq_none (by omega)
    rw [hE]
    clear hn hE hD
    have hB_c0 := hB.cell 0 rfl
    have hB_f0 := hB.frozen 0
    have hB_c1 := hB.cell 1 rfl
    have hB_f1 := hB.frozen 1
    go_enter Try.func61, Try.ntmps61
    go_wp2_with fail
    refine HL.out.mono ?_
    rintro e w1 ⟨rfl, rfl⟩
    go_wp2_with fail
    go_ret
    exact ⟨rfl, rfl⟩
theorem dict_in (k : Int) (ix sub : Int) (w : World) (hD : DB 86 w F p (some ⟨gl, 0, none⟩) n cl Av cv L V ds es) :
    Calls Try.prog 93 #[.pointer (some ⟨p, 0, none⟩), .int .i64 k, .int .i64 ix, .int .i64 sub] w fun e w' => e = .returned (.bool (nearZ L k ix)) ∧ w = w' := by
  have HL := hide (dict_len w hD.blk)
  have hB := hD.blk
  have hn := hD.ents.hn
  by_cases hk0 : 0 ≤ k
  · obtain ⟨k, rfl⟩ := Int.eq_ofNat_of_zero_le hk0
    have hR : nearZ L (k : Nat) ix = nearB L[k]? ix := by simp [nearZ]
    rw [hR]
    clear hk0 hR
    by_cases hk : k < n
    · obtain ⟨E, hE⟩ : ∃ E, L[k]? = some E := ⟨L[k]'(by omega), List.getElem?_eq_getElem _⟩
      obtain ⟨g, d, hA, hlt, hd, hO, hfit, c0, c1, c2, c3, c4, c5, c6, c7, c8, c9, c10⟩ := hD.ent hE
      injection hA with hA
      injection hA with hA
      subst hA
      rw [hE]
      clear c1 c2 c3 c4 c5 c6 c7 c8 c9 c10
      clear hn hE hd hO hfit hD hlt
      have hB_c0 := hB.cell 0 rfl
      have hB_f0 := hB.frozen 0
      have hB_c1 := hB.cell 1 rfl
      have hB_f1 := hB.frozen 1
      go_enter Try.func93, Try.ntmps93
      go_wp2_with fail
      refine HL.out.mono ?_
      rintro e w1 ⟨rfl, rfl⟩
      go_wp2_with fail
      go_ret
      refine ⟨ret_bool ?_, rfl⟩
      go_light
      simp_all [nearB]
      try rfl
    · have hE : L[k]? = none := List.getElem?_eq_none (by omega)
      rw [hE]
      clear hn hE hD
      have hB_c0 := hB.cell 0 rfl
      have hB_f0 := hB.frozen 0
      have hB_c1 := hB.cell 1 rfl
      have hB_f1 := hB.frozen 1
      go_enter Try.func93, Try.ntmps93
      go_wp2_with fail
      refine HL.out.mono ?_
      rintro e w1 ⟨rfl, rfl⟩
      go_wp2_with fail
      go_ret
      exact ⟨rfl, rfl⟩
  · have hR : nearZ L k ix = false := by simp [nearZ]; intro h; omega
    rw [hR]
    have hk' : k < 0 := by omega
    clear hn hD hk0 hR
    have hB_c0 := hB.cell 0 rfl
    have hB_f0 := hB.frozen 0
    have hB_c1 := hB.cell 1 rfl
    have hB_f1 := hB.frozen 1
    go_enter Try.func93, Try.ntmps93
    go_wp2_with fail
    go_ret
    exact ⟨rfl, rfl⟩
end
end Go.Proofs.Ytabgdfbiocoimaa

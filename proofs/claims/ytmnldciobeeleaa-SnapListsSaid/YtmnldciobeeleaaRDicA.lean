/- The reference of dictionaries: Find, missing, Get, May, Peek. -/
import Derived.Test.YtmnldciobeeleaaDicM
import Derived.Test.YtmnldciobeeleaaEntL
import Derived.Test.YtmnldciobeeleaaEntB
import Derived.Test.YtmnldciobeeleaaOctI
import Derived.Test.YtmnldciobeeleaaOct
import Derived.RegionTactic
import Derived.Deep.RegionHeld3
import Derived.Deep.Light
namespace Go.Proofs.Ytmnldciobeeleaa
set_option linter.unusedVariables false
set_option linter.unusedSimpArgs false
set_option linter.unnecessarySimpa false
section
open Go.RowKit
set_option maxRecDepth 100000
set_option maxHeartbeats 2000000
theorem join_nil (A : Option Addr) (n c : Nat) (l : List UInt8) (w : World) (hn : n = l.length) (hl : n ≤ 35184372088832) (hs : Sl w A (l.map bv)) :
    Calls Try.prog 27 #[.slice none 0 0, .slice A n c] w fun e w' => ∃ A' c', e = .returned (.slice A' n c') ∧ OwnB w' w.heap.size A' n c' l ∧ Below w.heap.size w w' := by
  refine (join_any none A 0 n 0 c [] l w rfl hn (by omega) hl (Sl.nil _ _) hs).mono ?_
  rintro e w' ⟨A', n', c', rfl, hO, hb⟩
  have h1 : n' = n := by have := hO.hn; simp at this; omega
  subst h1
  exact ⟨A', c', rfl, hO, hb⟩
section
variable {F : Nat → Prop} {p n cl cv : Nat} {Al Av : Option Addr} {L : List Ent} {V : List (List UInt8)} {ds es : List (Option Addr × Nat)}
theorem drop_cons {α : Type} {L : List α} {k : Nat} {x : α} (h : L[k]? = some x) : L.drop k = x :: L.drop (k + 1) := by
  obtain ⟨hk, rfl⟩ := List.getElem?_eq_some_iff.1 h
  exact List.drop_eq_getElem_cons hk
theorem rdic_find (ix sub : Int) (w : World) (hD : DB 62 w F p Al n cl Av cv L V ds es) (hn : n ≤ 1000) :
    Calls Try.prog 45 #[.pointer (some ⟨p, 0, none⟩), .int .i64 ix, .int .i64 sub] w fun e w' => e = .returned (.int .i64 (findL L ix sub)) ∧ w = w' := by
  have HD := hide hD
  have HN := hide hD.ents.hn
  have hB := hD.blk
  clear hD
  obtain ⟨hB_c0, hB_c1⟩ := cel2 hB
  have hB_f := hB.frozen
  go_enter Try.func45, Try.ntmps45
  go_wp2_with fail
  go_loopw [7, 8] (fun s7 s8 wr => ∃ (k : Nat) (kk : Int), k ≤ n ∧ s7 = .int .i64 kk ∧ s8 = .int .i64 (k : Nat) ∧ Hid (findA (L.drop k) ix sub k kk = findL L ix sub) ∧ w = wr) (fun _ s8 _ => n - (intOf s8).toNat)
  case atStart => exact ⟨0, -2, by omega, rfl, rfl, hide rfl, rfl⟩
  case round =>
    obtain ⟨k, kk, hk, rfl, rfl, HA, rfl⟩ := hrel
    by_cases hlt : k < n
    · obtain ⟨E, hE⟩ : ∃ E, L[k]? = some E := ⟨L[k]'(by rw [← HN.out]; exact hlt), List.getElem?_eq_getElem _⟩
      obtain ⟨g, d, rfl, zg, _, _, _, c0, c1, c2, c3, c4, c5, c6, c7, c8, c9, c10⟩ := HD.out.ent hE
      have HAE : Hid (findA (L.drop (k + 1)) ix sub (k + 1) (if E.ix ≠ ix then kk else if E.sub = sub then (k : Int) else if kk = -2 then -1 else kk) = findL L ix sub) := hide (by rw [← HA.out, drop_cons hE]; rfl)
      clear hE c2 c3 c4 c5 c6 c7 c8 c9 c10 HA
      by_cases h1 : E.ix = ix
      · by_cases h2 : E.sub = sub
        · have HA2 : Hid (findA (L.drop (k + 1)) ix sub (k + 1) (k : Int) = findL L ix sub) := hide (by have := HAE.out; rw [if_neg (by simpa using h1), if_pos h2] at this; exact this)
          by_cases h3 : kk = -2
          all_goals
            go_wp2_with fail
            go_roundw
            case rel => exact ⟨k + 1, k, by omega, by rfl, by go_num, HA2, by trivial⟩
            case measure => simp [intOf]; omega
        · by_cases h3 : kk = -2
          · have HA2 : Hid (findA (L.drop (k + 1)) ix sub (k + 1) (-1) = findL L ix sub) := hide (by have := HAE.out; rw [if_neg (by simpa using h1), if_neg h2, if_pos h3] at this; exact this)
            go_wp2_with fail
            go_roundw
            case rel => exact ⟨k + 1, -1, by omega, by rfl, by go_num, HA2, by trivial⟩
            case measure => simp [intOf]; omega
          · have HA2 : Hid (findA (L.drop (k + 1)) ix sub (k + 1) kk = findL L ix sub) := hide (by have := HAE.out; rw [if_neg (by simpa using h1), if_neg h2, if_neg h3] at this; exact this)
            go_wp2_with fail
            go_roundw
            case rel => exact ⟨k + 1, kk, by omega, by rfl, by go_num, HA2, by trivial⟩
            case measure => simp [intOf]; omega
      · have HA2 : Hid (findA (L.drop (k + 1)) ix sub (k + 1) kk = findL L ix sub) := hide (by have := HAE.out; rw [if_pos h1] at this; exact this)
        go_wp2_with fail
        go_roundw
        case rel => exact ⟨k + 1, kk, by omega, by rfl, by go_num, HA2, by trivial⟩
        case measure => simp [intOf]; omega
    · have hkn : k = n := by omega
      have HA2 : Hid (kk = findL L ix sub) := hide (by have := HA.out; rw [List.drop_eq_nil_of_le (by rw [hkn, HN.out]; exact Nat.le_refl _)] at this; exact this)
      go_wp2_with fail
      go_ret
      exact ⟨ret_int HA2.out, rfl⟩
theorem rdic_missing (k : Int) (w : World) : Calls Try.prog 46 #[.int .i64 k] w fun e w' => e = .returned (.int .u32 (if k = -2 then 100794368 else 101253137)) ∧ w = w' := by
  by_cases h : k = -2
  · subst h
    go_enter Try.func46, Try.ntmps46
    go_wp2_with fail
    go_ret
    exact ⟨rfl, rfl⟩
  · have HR : Hid ((if k = -2 then (100794368 : Int) else 101253137) = 101253137) := hide (if_neg h)
    go_enter Try.func46, Try.ntmps46
    go_wp2_with fail
    go_ret
    first | exact ⟨rfl, rfl⟩ | exact ⟨ret_int HR.out.symm, rfl⟩
theorem code_missing {L : List Ent} {ix sub : Int} (h : ¬ 0 ≤ findL L ix sub) : (if findL L ix sub = -2 then (100794368 : Int) else 101253137) = codeL L ix sub := by unfold codeL; rw [if_neg h]
end
end
section
open Go.RowKit
set_option maxRecDepth 100000
set_option maxHeartbeats 2000000
section
variable {F : Nat → Prop} {p n cl cv : Nat} {Al Av : Option Addr} {L : List Ent} {V : List (List UInt8)} {ds es : List (Option Addr × Nat)}
theorem readE_cases (acc : Int) : readE acc = 0 ∨ readE acc = 100728833 := by unfold readE; split <;> simp
def RGetR (L : List Ent) (V : List (List UInt8)) (ix sub : Int) (w : World) (e : Ending) (w' : World) : Prop :=
  ∃ A m c b, e = .returned (.tuple #[.slice A m c, .int .u32 (getC L ix sub)]) ∧ OwnB w' w.heap.size A m c b ∧ b = (if getC L ix sub = 0 then valK V (locK L ix sub) else []) ∧ Below w.heap.size w w'
def RPeekR (L : List Ent) (V : List (List UInt8)) (ix sub : Int) (w : World) (e : Ending) (w' : World) : Prop :=
  ∃ A m c b, e = .returned (.tuple #[.slice A m c, .bool (hasL L ix sub)]) ∧ OwnB w' w.heap.size A m c b ∧ b = (if hasL L ix sub = true then valK V (locK L ix sub) else []) ∧ Below w.heap.size w w'
end
end
end Go.Proofs.Ytmnldciobeeleaa

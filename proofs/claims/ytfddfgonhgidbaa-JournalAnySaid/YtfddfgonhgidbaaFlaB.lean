/- Package flash: fill, erase, begin, do, Erase. -/
import Derived.Test.YtfddfgonhgidbaaFlaA
namespace Go.Proofs.Ytfddfgonhgidbaa
set_option linter.unusedVariables false
set_option linter.unusedSimpArgs false
set_option linter.unnecessarySimpa false
open Go.RowKit
set_option maxRecDepth 20000
set_option maxHeartbeats 2000000

theorem put_snoc {l A : List UInt8} {k : Nat} (x : UInt8) (h : k + A.length < l.length) : (put l k A).set (k + A.length) x = put l k (A ++ [x]) := by
  rw [set_put _ (by rw [put_len (by omega)]; omega), put_put (by simp; omega)]
theorem fit_of {S S' : FS} (h : FitF S) (h1 : S'.b.length = S.b.length) (h2 : S'.wear = S.wear) (h3 : S'.mask = S.mask) (h4 : S'.most = S.most) (h5 : S'.ahead = S.ahead ∨ S'.ahead = decA S.ahead ∨ S'.ahead = -1) : FitF S' := by
  refine ⟨by rw [h1, h2]; exact h.len, by rw [h2]; exact h.wl, by rw [h2]; exact h.wl8, by rw [h3]; exact h.mask, ?_, ?_, by rw [h4]; exact h.m1, by rw [h4]; exact h.m2, by rw [h2, h4]; exact h.w⟩
  · have := h.ah1
    rcases h5 with h5 | h5 | h5 <;> rw [h5]
    · exact this
    · unfold decA; split <;> omega
    · omega
  · have := h.ah2
    rcases h5 with h5 | h5 | h5 <;> rw [h5]
    · exact this
    · unfold decA; split <;> omega
    · omega
theorem fl_fill (q : FP) (S : FS) (i n : Nat) (w : World) (hD : FD w q S) (hi : i < S.wear.length) (hn : n ≤ 1024) :
    Calls Try.prog 112 #[.pointer (some ⟨q.p, 0, none⟩), .int .i64 (i : Nat), .int .i64 (n : Nat)] w fun e w' => e = .returned (.tuple #[]) ∧ FD w' q { S with b := put S.b (1024 * i) (List.replicate n 255) } ∧ Only (fun g => g = q.gb) w w' := by
  have HD := hide hD
  have h8 := hD.fit.wl8
  have HL := hide hD.fit.len
  have HI := hide hi
  clear hD
  have hi8 : i ≤ 7 := by omega
  clear hi h8
  obtain ⟨fr, hfr⟩ : ∃ fr, fr = 1024 * i := ⟨_, rfl⟩
  have hfi : ((i : Int) * 1024) = ((fr : Nat) : Int) := by omega
  have hf7 : fr ≤ 7168 := by omega
  have HFR := hide hfr
  clear hfr
  go_enter Try.func112, Try.ntmps112
  go_wp2_with fail
  go_loopw [7] (fun j wr => ∃ k, k ≤ n ∧ j = .int .i64 ((fr : Int) + (k : Int)) ∧ Hid (FD wr q { S with b := put S.b fr (List.replicate k 255) }) ∧ Hid (Only (fun g => g = q.gb) w wr)) (fun j _ => fr + n - (intOf j).toNat)
  case atStart => exact ⟨0, by omega, by simp, hide (by rw [List.replicate_zero, put_nil]; exact HD.out), hide (Only.refl _ _)⟩
  case round =>
    obtain ⟨k, hk, rfl, HDr, HOr⟩ := hrel
    by_cases hlt : k < n
    · have hpl : (put S.b fr (List.replicate k 255)).length = S.b.length := put_len (by have := HL.out; have := HI.out; have := HFR.out; simp; omega)
      have hb := HDr.out.byte (j := fr + k) (by simp only []; rw [hpl]; have := HL.out; have := HI.out; have := HFR.out; omega)
      have hlen : fr + k < S.b.length := by have := HL.out; have := HI.out; have := HFR.out; omega
      obtain ⟨⟨c0, -⟩, -⟩ := HDr.out.c
      simp only [] at c0
      rw [hpl] at c0
      have f0 := hb.2
      have i1 : ((fr : Int) + (k : Int)).toNat = fr + k := by omega
      have i2 : (0 : Int) ≤ (fr : Int) + (k : Int) := by omega
      have i3 : (fr : Int) + (k : Int) < (S.b.length : Int) := by omega
      have b0 := hb.1
      have HLT := hide hlen
      clear hpl hb hlen
      go_wp2_with fail
      have hset := HDr.out.setB (fr + k) 255
      have he : (put S.b fr (List.replicate k 255)).set (fr + k) 255 = put S.b fr (List.replicate (k + 1) 255) := by
        have := put_snoc (l := S.b) (A := List.replicate k 255) (k := fr) 255 (by rw [List.length_replicate]; exact HLT.out)
        rw [List.length_replicate] at this
        rw [this, List.replicate_succ']
      simp only [] at hset
      rw [he] at hset
      have HDn := hide hset
      have HOn := hide (HOr.out.set _ (p := q.gb) (i := fr + k) rfl (.int .u8 255))
      go_roundw
      case rel => exact ⟨k + 1, by omega, by go_num, HDn, HOn⟩
      case measure => simp [intOf]; omega
    · obtain rfl : k = n := by omega
      go_wp2_with fail
      go_end0
      exact ⟨rfl, by rw [← HFR.out]; exact HDr.out, HOr.out⟩
theorem fl_erase (q : FP) (S : FS) (i : Nat) (w : World) (hD : FD w q S) (hi : i < S.wear.length) :
    Calls Try.prog 76 #[.pointer (some ⟨q.p, 0, none⟩), .int .i64 (i : Nat)] w fun e w' => e = .returned (.tuple #[]) ∧ FD w' q { S with b := put S.b (1024 * i) (List.replicate 1024 255) } ∧ Only (fun g => g = q.gb) w w' := by
  have H0 := fl_fill q S i 1024 w hD hi (Nat.le_refl _)
  generalize ({ S with b := put S.b (1024 * i) (List.replicate 1024 255) } : FS) = S' at H0 ⊢
  have H := hide H0
  clear H0
  go_enter Try.func76, Try.ntmps76
  go_wp2_with fail
  refine H.out.mono ?_
  rintro e w1 ⟨rfl, h1, h2⟩
  have HH := hide (And.intro h1 h2)
  clear h1 h2
  go_wp2_with fail
  go_end0
  exact ⟨rfl, HH.out⟩
theorem fl_begin (q : FP) (S : FS) (i : Nat) (w : World) (hD : FD w q S) (hi : i < S.wear.length) :
    Calls Try.prog 77 #[.pointer (some ⟨q.p, 0, none⟩), .int .i64 (i : Nat)] w fun e w' => e = .returned (.tuple #[]) ∧ FD w' q { S with b := put S.b (1024 * i) (List.replicate (S.mask % 1025) 255) } ∧ Only (fun g => g = q.gb) w w' := by
  have H0 := fl_fill q S i (S.mask % 1025) w hD hi (by omega)
  generalize ({ S with b := put S.b (1024 * i) (List.replicate (S.mask % 1025) 255) } : FS) = S' at H0 ⊢
  have H := hide H0
  clear H0
  have hm := hD.fit.mask
  obtain ⟨⟨-, -, -, -, -, c5, -⟩, -⟩ := hD.c
  obtain ⟨m, hmm⟩ : ∃ m, m = S.mask := ⟨_, rfl⟩
  rw [← hmm] at c5 hm
  rw [← hmm] at H
  have hm' : m ≤ 4294967295 := by unfold U32 at hm; omega
  clear hmm hm hD
  go_enter Try.func77, Try.ntmps77
  go_wp2_with fail
  have e1 : ((m : Int) % 1025) = ((m % 1025 : Nat) : Int) := by omega
  try rw [e1]
  clear e1
  refine H.out.mono ?_
  rintro e w1 ⟨rfl, h1, h2⟩
  have HH := hide (And.intro h1 h2)
  clear h1 h2
  go_wp2_with fail
  go_end0
  exact ⟨rfl, HH.out⟩
end Go.Proofs.Ytfddfgonhgidbaa

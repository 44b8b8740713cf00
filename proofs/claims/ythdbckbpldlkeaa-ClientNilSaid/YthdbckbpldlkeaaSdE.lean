/- Package sdomsg: what Build lays its bytes with: put and bit; data; guess' get. -/
import Derived.Test.YthdbckbpldlkeaaOct
import Derived.Test.YthdbckbpldlkeaaSdL
namespace Go.Proofs.Ythdbckbpldlkeaa
set_option linter.unusedVariables false
set_option linter.unusedSimpArgs false
set_option linter.unnecessarySimpa false
open Go.RowKit
set_option maxRecDepth 100000
set_option maxHeartbeats 2000000

def Bl8 (w : World) (g : Nat) (l : List UInt8) : Prop := Blk w g 113 (l.map bv).toArray
theorem Bl8.set8 {w : World} {g : Nat} {l : List UInt8} (h : Bl8 w g l) (i : Nat) (c : UInt8) : Bl8 (w.setCell ⟨g, i, none⟩ (bv c)) g (l.set i c) := by
  have := Blk.set_ h i (bv c)
  unfold Bl8
  simpa [List.map_set] using this
theorem Bl8.at8 {w : World} {g : Nat} {l : List UInt8} (h : Bl8 w g l) (i : Nat) (hi : i < l.length) : w.cell? ⟨g, i, none⟩ = some (.int .u8 (l[i]).toNat) ∧ w.frozen? ⟨g, i, none⟩ = false := by
  refine ⟨Blk.cell h i ?_, Blk.frozen h i⟩
  simp [hi, bv]
theorem sd_put (at_ wd x : Nat) (g : Nat) (l : List UInt8) (w : World) (hl : l.length = 8) (hx : U64 x) (hw : at_ + wd ≤ 8) (hB : Bl8 w g l) :
    Calls Try.prog 74 #[.int .i64 (at_ : Nat), .int .i64 (wd : Nat), .int .u64 (x : Nat), .pointer (some ⟨g, 0, none⟩)] w fun e w' => e = .returned (.tuple #[]) ∧ Bl8 w' g (putL l at_ wd x) ∧ w.grownBy w' (some g) := by
  have HL := hide hl
  have HX := hide hx
  clear hl hx
  go_enter Try.func74, Try.ntmps74
  go_wp2_with fail
  go_loopw [7, 9] (fun _ i wr => ∃ k : Nat, k ≤ wd ∧ i = .int .i64 (k : Nat) ∧ Bl8 wr g (putL l at_ k x) ∧ w.grownBy wr (some g)) (fun _ i _ => wd - (intOf i).toNat)
  case atStart => exact ⟨0, by omega, rfl, hB, World.grownBy.refl _ _⟩
  case round =>
    obtain ⟨k, hk, rfl, hBr, hg⟩ := hrel
    by_cases hlt : k < wd
    · obtain ⟨hc, hf⟩ := hBr.at8 (at_ + k) (by rw [putL_len, HL.out]; omega)
      have hi8 : (at_ : Int) + (k : Int) < 8 := by omega
      have hnat : ((at_ : Int) + (k : Int)).toNat = at_ + k := by omega
      go_wp2_with fail
      go_roundw
      case rel =>
        refine ⟨k + 1, by omega, by go_num, ?_, grown_set hg (.inl rfl) _ _⟩
        rw [putL_succ, put_byte]
        exact hBr.set8 (at_ + k) _
      case measure => simp [intOf]; omega
    · go_wp2_with fail
      obtain rfl : k = wd := by omega
      exact bodyPost_end (by kernel_rfl) rfl ⟨rfl, hBr, hg⟩
theorem sd_bit (b : Bool) (x y : Nat) (g : Nat) (w : World) (hx : x < 256) (hy : y < 256) (hB : Blk w g 5 #[.int .u8 (x : Nat)]) :
    Calls Try.prog 75 #[.bool b, .int .u8 (y : Nat), .pointer (some ⟨g, 0, none⟩)] w fun e w' => e = .returned (.tuple #[]) ∧ Blk w' g 5 #[.int .u8 ((if b = true then x ||| y else x : Nat) : Int)] ∧ w.grownBy w' (some g) := by
  have q0 := hB.cell 0 rfl
  have f0 := hB.frozen 0
  have HX := hide (u8_or_nat x y hx hy)
  clear hx hy
  cases b
  · go_enter Try.func75, Try.ntmps75
    go_wp2_with fail
    exact bodyPost_end (by kernel_rfl) rfl ⟨rfl, hB, World.grownBy.refl _ _⟩
  · go_enter Try.func75, Try.ntmps75
    go_wp2_with fail
    rw [HX.out]
    exact bodyPost_end (by kernel_rfl) rfl ⟨rfl, by simpa using hB.set_ 0 _, grown_set (World.grownBy.refl _ _) (.inl rfl) _ _⟩
theorem sd_data (A : Option Addr) (n c : Nat) (l : List UInt8) (from_ : Nat) (m : Int) (w : World) (hn : n = l.length) (hc : n ≤ c) (hl : n ≤ 35184372088832) (hm : (from_ : Int) + m ≤ n) (hs : Sl w A (l.map bv)) :
    Calls Try.prog 92 #[.slice A n c, .int .i64 (from_ : Nat), .int .i64 m] w fun e w' => ∃ A' n' c', e = .returned (.slice A' n' c') ∧ OwnB w' w.heap.size A' n' c' ((l.drop from_).take m.toNat) ∧ Below w.heap.size w w' := by
  by_cases h0 : m ≤ 0
  · have HZ : Hid ((l.drop from_).take m.toNat = []) := hide (by rw [show m.toNat = 0 by omega]; simp)
    go_enter Try.func92, Try.ntmps92
    go_wp2_with fail
    go_ret
    exact ⟨none, 0, 0, rfl, by rw [HZ.out]; exact OwnB.nil _ _, Below.refl _ _⟩
  · have h1 : 0 < m := by omega
    have hk : from_ ≤ from_ + m.toNat := by omega
    have HT := hide (((hs.cut1 (k := from_) (c := c) (by simp; omega)).take m.toNat))
    have hcut := fun W => cut2_b A n c from_ (from_ + m.toNat) (from_ : Int) ((from_ : Int) + m) .i64 .i64 rfl (by omega) hk (by omega) W
    rw [show from_ + m.toNat - from_ = m.toNat by omega] at hcut
    have HM : Hid (m.toNat = ((l.drop from_).take m.toNat).length) := hide (by simp; omega)
    have hm8 : m.toNat ≤ 140737488355328 := by omega
    have h64 : (from_ : Int) + m ≤ 4611686018427387904 := by omega
    clear h0 hn hs hk
    go_enter Try.func92, Try.ntmps92
    go_wp2_with (at_builtin; refine app_b _ rfl _ _ rfl w.heap.size none 0 0 [] rfl (OwnB.nil _ _) (cutA A c from_ 1) m.toNat _ ((l.drop from_).take m.toNat) rfl HM.out (by have := HT.out; rw [← List.map_drop, ← List.map_take] at this; exact this) (by omega) (Nat.le_refl _) m.toNat (by omega) ?_; intro A3 c3 w3 hO3 _ _ hb3)
    go_ret
    exact ⟨_, _, _, rfl, hO3, hb3⟩
theorem sd_get (A : Option Addr) (n c : Nat) (l : List UInt8) (at_ wd : Int) (g : Nat) (w : World) (hn : n = l.length) (hc : n ≤ c) (hl : n ≤ 4611686018427387904) (h0 : 0 ≤ at_) (h1 : at_ + wd ≤ n) (h2 : 1 ≤ wd) (h8 : wd ≤ 8) (hs : Sl w A (l.map bv)) (hB : Blk w g 32 #[.slice A n c]) :
    Calls Try.prog 90 #[.int .i64 at_, .int .i64 wd, .pointer (some ⟨g, 0, none⟩)] w fun e w' => e = .returned (.int .u64 (leN ((l.drop at_.toNat).take wd.toNat))) ∧ w = w' := by
  have q0 := hB.cell 0 rfl
  have HG := hide (get_ok' A n c l at_ wd w hn hc hl h0 h1 h2 h8 hs)
  clear hn hc hl h0 h1 h2 h8 hs
  go_enter Try.func90, Try.ntmps90
  go_wp2_with fail
  refine HG.out.mono ?_
  rintro e w1 ⟨rfl, rfl⟩
  go_wp2_with fail
  go_ret
  exact ⟨rfl, rfl⟩
end Go.Proofs.Ythdbckbpldlkeaa

/- Packages octet and frame: the digits of bytes; a frame's Id read. -/
import Derived.Test.YthdbckbpldlkeaaBase
import Derived.Test.YthdbckbpldlkeaaLaws
import Derived.Test.YthdbckbpldlkeaaOwnF
import Derived.Laws.RangeString
import Derived.LoopN
import Derived.Deep.DeepCutAuto
import Derived.Deep.CutBlock
import Derived.Laws.BitsAllLaws
namespace Go.Proofs.Ythdbckbpldlkeaa
set_option linter.unusedVariables false
set_option linter.unusedSimpArgs false
set_option linter.unnecessarySimpa false
open Go.RowKit
set_option maxRecDepth 100000
set_option maxHeartbeats 4000000
def hexD (c : Nat) : Prop := (48 ≤ c ∧ c ≤ 57) ∨ (97 ≤ c ∧ c ≤ 102)
instance (c : Nat) : Decidable (hexD c) := by unfold hexD; infer_instance
def nibN (c : Nat) : Nat := if c ≤ 57 then c - 48 else c - 87
theorem oct_nibble (c : Nat) (hc : hexD c) (w : World) : Calls Try.prog 70 #[.int .u8 (c : Nat)] w fun e w' => e = .returned (.tuple #[.int .u8 (nibN c : Nat), .bool true]) ∧ w = w' := by
  rcases hc with ⟨h1, h2⟩ | ⟨h1, h2⟩
  · have e : ((nibN c : Nat) : Int) = (c : Int) - 48 := by unfold nibN; rw [if_pos h2]; omega
    rw [e]
    have h1' : (48 : Int) ≤ (c : Int) := by omega
    have h2' : (c : Int) ≤ 57 := by omega
    clear e h1 h2
    go_enter Try.func70, Try.ntmps70
    go_wp2_with fail
    go_ret2
    exact ⟨rfl, rfl⟩
  · have e : ((nibN c : Nat) : Int) = (c : Int) - 87 := by unfold nibN; rw [if_neg (by omega)]; omega
    have E := hide e
    have h1' : (97 : Int) ≤ (c : Int) := by omega
    have h2' : (c : Int) ≤ 102 := by omega
    have h3' : ¬ (c : Int) ≤ 57 := by omega
    have h4' : (48 : Int) ≤ (c : Int) := by omega
    have w1 : (c : Int) - 97 + 10 = (c : Int) - 87 := by omega
    clear e h1 h2
    go_enter Try.func70, Try.ntmps70
    go_wp2_with fail
    go_ret2
    exact ⟨by rw [E.out, ← w1]; rfl, rfl⟩
theorem frm_value (c : Nat) (h1 : 48 ≤ c ∧ c ≤ 57) (w : World) : Calls Try.prog 69 #[.int .i32 (c : Nat)] w fun e w' => e = .returned (.tuple #[.int .i64 ((c : Int) - 48), .bool true]) ∧ w = w' := by
  have h1' : (48 : Int) ≤ (c : Int) := by omega
  have h2' : (c : Int) ≤ 57 := by omega
  clear h1
  go_enter Try.func69, Try.ntmps69
  go_wp2_with fail
  go_ret2
  exact ⟨rfl, rfl⟩
def unhL (s : ByteArray) (n : Nat) : List UInt8 := (List.range n).map fun i => UInt8.ofNat (nibN ((s.data.getD (2 * i) 0).toNat) * 16 + nibN ((s.data.getD (2 * i + 1) 0).toNat))
theorem unhL_succ (s : ByteArray) (n : Nat) : unhL s (n + 1) = unhL s n ++ [UInt8.ofNat (nibN ((s.data.getD (2 * n) 0).toNat) * 16 + nibN ((s.data.getD (2 * n + 1) 0).toNat))] := by
  unfold unhL
  rw [List.range_succ, List.map_append]
  rfl
theorem gb (s : ByteArray) (i : Nat) (h : i < s.size) : (s[i]'h).toNat = (s.data.getD i 0).toNat := by
  have h' : i < s.data.size := h
  rw [show s[i]'h = s.data[i]'h' from rfl]
  unfold Array.getD
  rw [dif_pos h']
  rfl
theorem nib_or (x y : Nat) (hx : x < 16) (hy : y < 16) : bits BinOp.or IntKind.u8 ((x : Int) * 16) (y : Int) = ((x * 16 + y : Nat) : Int) := by
  have h : ∀ a : Fin 16, ∀ b : Fin 16, bits BinOp.or IntKind.u8 ((a.val : Int) * 16) (b.val : Int) = ((a.val * 16 + b.val : Nat) : Int) := by decide +kernel
  exact h ⟨x, hx⟩ ⟨y, hy⟩
theorem sl_one8 (W : World) (z : Nat) (hz : z < 256) : Sl (W.alloc (.cells #[.int .u8 (z : Nat)] 5)) (some ⟨W.heap.size, 0, none⟩) ([UInt8.ofNat z].map bv) := by
  intro j u hu
  cases j with
  | succ j => simp at hu
  | zero =>
    have e : (UInt8.ofNat z).toNat = z := by simp; omega
    simp [bv, e] at hu
    subst hu
    refine ⟨_, rfl, ?_⟩
    exact (Blk.new W 5 #[.int .u8 (z : Nat)]).cell 0 rfl
theorem oct_unhex (s : ByteArray) (n : Nat) (hs : s.size = 2 * n) (hn : n ≤ 1000) (hd : ∀ i, i < s.size → hexD ((s.data.getD i 0).toNat)) (w : World) :
    Calls Try.prog 47 #[.string s] w fun e w' => ∃ A c, e = .returned (.tuple #[.slice A n c, .int .i64 0]) ∧ OwnB w' w.heap.size A n c (unhL s n) ∧ Below w.heap.size w w' := by
  have HD := hide hd
  have HS := hide hs
  have hr : (s.size : Int) % 2 = 0 := by omega
  have hq : (s.size : Int) / 2 = (n : Int) := by omega
  clear hd hs
  go_enter Try.func47, Try.ntmps47
  go_wp2_with (at_make; refine mk_b _ rfl _ _ rfl _ _ _ _ 0 n rfl rfl rfl rfl (Nat.zero_le _) (by omega) w.heap.size rfl ?_; intro w1 hown1 hz1 hb1)
  have HO1 := hide hown1
  have HB1 := hide hb1
  clear hown1 hb1 hr
  go_loopw [2, 3, 4, 5, 6, 7, 8, 9, 21, 22, 23, 24, 25, 26, 27, 28, 29, 30, 31, 32, 33, 34, 35, 36, 37, 38, 39, 40, 41, 42, 43, 44, 45, 46, 47, 48, 49, 50, 51, 52, 53, 54] (fun _ _ v4 _ _ _ _ _ v21 _ _ _ _ _ _ _ _ _ _ _ _ _ _ _ _ _ _ _ _ _ _ _ _ _ _ _ _ _ _ _ _ _ wr => ∃ k A' c', v21 = .int .i64 (k : Nat) ∧ v4 = .slice A' k c' ∧ k ≤ n ∧ Hid (OwnB wr w.heap.size A' k c' (unhL s k) ∧ Below w.heap.size w wr)) (fun _ _ _ _ _ _ _ _ v21 _ _ _ _ _ _ _ _ _ _ _ _ _ _ _ _ _ _ _ _ _ _ _ _ _ _ _ _ _ _ _ _ _ _ => n - (intOf v21).toNat)
  case atStart => exact ⟨0, _, _, rfl, rfl, Nat.zero_le _, hide ⟨HO1.out, HB1.out⟩⟩
  case round =>
    obtain ⟨k, A', c', rfl, rfl, hk, HR⟩ := hrel
    by_cases hlt : k < n
    · have i1 : 2 * k < s.size := by have := HS.out; omega
      have i2 : 2 * k + 1 < s.size := by have := HS.out; omega
      obtain ⟨x, hx⟩ : ∃ x, x = nibN ((s.data.getD (2 * k) 0).toNat) := ⟨_, rfl⟩
      obtain ⟨y, hy⟩ : ∃ y, y = nibN ((s.data.getD (2 * k + 1) 0).toNat) := ⟨_, rfl⟩
      have HX := hide hx
      have HY := hide hy
      have hx16 : x < 16 := by
        have := HD.out _ i1
        rw [hx]; unfold nibN; unfold hexD at this; split <;> omega
      have hy16 : y < 16 := by
        have := HD.out _ i2
        rw [hy]; unfold nibN; unfold hexD at this; split <;> omega
      clear hx hy
      go_wp2_with fail
      rw [gb s (2 * k) i1]
      refine (oct_nibble _ (HD.out _ i1) wr).mono ?_
      rintro e w2 ⟨rfl, rfl⟩
      rw [← HX.out]
      go_wp2_with fail
      rw [gb s (2 * k + 1) i2]
      refine (oct_nibble _ (HD.out _ i2) wr).mono ?_
      rintro e w2 ⟨rfl, rfl⟩
      rw [← HY.out]
      have hb := nib_or x y hx16 hy16
      have HXY := hide (show unhL s (k + 1) = unhL s k ++ [UInt8.ofNat (x * 16 + y)] by rw [HX.out, HY.out]; exact unhL_succ s k)
      go_wp2_with (at_builtin; refine app_b _ rfl _ _ rfl w.heap.size A' k c' (unhL s k) rfl (HR.out.1.alloc _) (some ⟨wr.heap.size, 0, none⟩) 1 1 [UInt8.ofNat (x * 16 + y)] rfl rfl (sl_one8 wr (x * 16 + y) (by omega)) (by omega) (by have := HR.out.2.size; simp; omega) (k + 1) rfl ?_; intro A6 c6 w6 h1 h2 h3 h4)
      refine ⟨⟨k + 1, A6, c6, by congr 1, rfl, by omega, hide ⟨by rw [HXY.out]; exact h1, (below_alloc HR.out.2 _).trans h4⟩⟩, by simp only [intOf]; omega⟩
    · obtain rfl : n = k := by omega
      go_wp2_with fail
      go_ret2
      exact ⟨A', c', rfl, HR.out.1, HR.out.2⟩
end Go.Proofs.Ythdbckbpldlkeaa

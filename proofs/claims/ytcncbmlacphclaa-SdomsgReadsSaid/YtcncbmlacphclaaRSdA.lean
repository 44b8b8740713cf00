/- The reference of sdomsg: flag, put. -/
import Derived.Test.YtcncbmlacphclaaSdL
import Derived.Test.YtcncbmlacphclaaSeat
namespace Go.Proofs.Ytcncbmlacphclaa
set_option linter.unusedVariables false
set_option linter.unusedSimpArgs false
set_option linter.unnecessarySimpa false
open Go.RowKit
set_option maxRecDepth 100000
set_option maxHeartbeats 2000000

theorem rsd_flag (b : Bool) (n : Int) (w : World) : Calls Try.prog 87 #[.bool b, .int .i64 n] w fun e w' => e = .returned (.int .i64 (if b = true then n else 0)) ∧ w = w' := by
  cases b
  all_goals
    go_enter Try.func87, Try.ntmps87
    go_wp2_with fail
    go_ret
    exact ⟨rfl, rfl⟩
/-- eight bytes in a row of the call's own -/
def Ow8 (w : World) (B g c : Nat) (l : List UInt8) : Prop := OwnB w B (some ⟨g, 0, none⟩) 8 c l
theorem Ow8.set8 {w : World} {B g c : Nat} {l : List UInt8} (h : Ow8 w B g c l) (i : Nat) (x : UInt8) : Ow8 (w.setCell ⟨g, i, none⟩ (bv x)) B g c (l.set i x) := by
  refine ⟨by rw [List.length_set]; exact h.hn, ?_⟩
  have := Own.stored h.own i (bv x)
  simpa [List.map_set] using this
theorem Ow8.at8 {w : World} {B g c : Nat} {l : List UInt8} (h : Ow8 w B g c l) (i : Nat) (hi : i < 8) : ∃ u : Int, w.cell? ⟨g, i, none⟩ = some (.int .u8 u) ∧ w.frozen? ⟨g, i, none⟩ = false := by
  obtain ⟨g', u, e, hb, hlt, hu, hc, hf⟩ := h.own.cell (k := i) hi
  injection e with e
  injection e with e
  subst e
  have hl : i < l.length := by have := h.hn; omega
  rw [List.getElem?_map, List.getElem?_eq_getElem hl] at hu
  have hu' : u = bv (l[i]) := by simpa using hu.symm
  exact ⟨_, by rw [hc, hu']; rfl, hf⟩
theorem div_step (x k : Nat) : ((x / 256 ^ k : Nat) : Int) / 256 = ((x / 256 ^ (k + 1) : Nat) : Int) := by
  have : ((x / 256 ^ k : Nat) : Int) / 256 = ((x / 256 ^ k / 256 : Nat) : Int) := by push_cast; rfl
  rw [this, Nat.div_div_eq_div_mul, Nat.pow_succ]
theorem mod_byte (x : Nat) : Value.int IntKind.u8 ((x : Int) % 256) = bv (UInt8.ofNat x) := by
  simp only [bv, UInt8.toNat_ofNat']
  congr 1
theorem rsd_put (at_ wd x : Nat) (B g c : Nat) (l : List UInt8) (w : World) (hx : x ≤ 4294967295) (hw : at_ + wd ≤ 8) (hB : Ow8 w B g c l) :
    Calls Try.prog 86 #[.slice (some ⟨g, 0, none⟩) 8 c, .int .i64 (at_ : Nat), .int .i64 (wd : Nat), .int .i64 (x : Nat)] w fun e w' => e = .returned (.tuple #[]) ∧ Ow8 w' B g c (putL l at_ wd x) ∧ w.grownBy w' (some g) := by
  have HX := hide hx
  clear hx
  go_enter Try.func86, Try.ntmps86
  go_wp2_with fail
  go_loopw [3, 8] (fun v i wr => ∃ k : Nat, k ≤ wd ∧ i = .int .i64 (k : Nat) ∧ v = .int .i64 ((x / 256 ^ k : Nat) : Int) ∧ Ow8 wr B g c (putL l at_ k x) ∧ w.grownBy wr (some g)) (fun _ i _ => wd - (intOf i).toNat)
  case atStart => exact ⟨0, by omega, rfl, by simp, hB, World.grownBy.refl _ _⟩
  case round =>
    obtain ⟨k, hk, rfl, rfl, hBr, hg⟩ := hrel
    by_cases hlt : k < wd
    · obtain ⟨u, hc, hf⟩ := hBr.at8 (at_ + k) (by omega)
      have hi8 : (at_ : Int) + (k : Int) < 8 := by omega
      have hnat : ((at_ : Int) + (k : Int)).toNat = at_ + k := by omega
      have hq : x / 256 ^ k ≤ 4294967295 := Nat.le_trans (Nat.div_le_self _ _) HX.out
      have HD := hide (div_step x k)
      obtain ⟨y, hy⟩ : ∃ y, y = x / 256 ^ k := ⟨_, rfl⟩
      rw [← hy] at hq HD ⊢
      have HY := hide hy
      clear hy
      go_wp2_with fail
      go_roundw
      case rel =>
        refine ⟨k + 1, by omega, by go_num, by rw [HD.out], ?_, grown_set hg (.inl rfl) _ _⟩
        rw [putL_succ, ← HY.out, mod_byte]
        exact hBr.set8 (at_ + k) _
      case measure => simp [intOf]; omega
    · go_wp2_with fail
      obtain rfl : k = wd := by omega
      exact bodyPost_end (by kernel_rfl) rfl ⟨rfl, hBr, hg⟩
end Go.Proofs.Ytcncbmlacphclaa

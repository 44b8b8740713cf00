/- The reference's octet: Lent, Kept, Spoil. -/
import Derived.Test.YtabgdfbiocoimaaRef01
namespace Go.Proofs.Ytabgdfbiocoimaa
set_option linter.unusedVariables false
set_option linter.unusedSimpArgs false
set_option linter.unnecessarySimpa false
open Go.RowKit

theorem lent_any (A : Option Addr) (n c : Nat) (l : List UInt8) (w : World) (hn : n = l.length) (hl : n ≤ 35184372088832) (hs : Sl w A (l.map bv)) :
    Calls Try.prog 30 #[.slice A n c] w fun e w' => ∃ g c', e = .returned (.slice (some ⟨g, 0, none⟩) n c') ∧
      OwnB w' w.heap.size (some ⟨g, 0, none⟩) (n + 1) c' (l ++ [77]) ∧ Below w.heap.size w w' := by
  have H1 := hide hn
  clear hn
  go_enter Try.func30, Try.ntmps30
  go_wp2_with (first
    | (at_builtin; refine app_b _ rfl (.tmp 4) (.tmp 5) rfl w.heap.size _ _ _ _ rfl (OwnB.nil _ _) _ _ _ l rfl H1.out hs (by omega) (Nat.le_refl _) n (by omega) ?_; intro A3 c3 w3 hown3 _ _ hb3)
    | (at_builtin; refine app_b _ rfl (.tmp 7) (.tmp 8) rfl w.heap.size _ _ _ _ rfl (hown3.alloc _) _ _ _ [77] rfl rfl (Sl.one _ _ _) (by omega) (by have := hb3.size; simp; omega) (n + 1) rfl ?_; intro A4 c4 w4 hown4 _ _ hb4; have hle4 : n + 1 ≤ c4 := hown4.le; obtain ⟨g, rfl, hg1, hg2⟩ := hown4.own.at_ (by omega)))
  go_ret
  exact ⟨_, _, rfl, by simpa using hown4, (hb3.alloc hb3.size _).trans hb4⟩

set_option maxRecDepth 20000 in
theorem kept_yes (g : Nat) (A2 : Option Addr) (n c c2 : Nat) (l : List UInt8) (w : World) (hn : n = l.length) (hl : n ≤ 35184372088832) (hc : n + 1 ≤ c)
    (h1 : Sl w (some ⟨g, 0, none⟩) ((l ++ [77]).map bv)) (h2 : Sl w A2 (l.map bv)) :
    Calls Try.prog 32 #[.slice (some ⟨g, 0, none⟩) n c, .slice A2 n c2] w fun e w' => e = .returned (.bool true) ∧ w = w' := by
  have k1 := str_b c hn (by have := h1.take n; rw [List.map_append, hn, List.take_left' (by simp)] at this; exact this)
  have k2 := str_b c2 hn h2
  obtain ⟨ad, had, hcell⟩ := h1.byte (j := n) (by simp [hn])
  injection had with had
  subst had
  have hv : (l ++ [77])[n]'(by simp [hn]) = 77 := by subst hn; simp
  rw [hv] at hcell
  have hc77 : w.cell? ⟨g, n, none⟩ = some (.int .u8 77) := by simpa [Addr.add_lit] using hcell
  clear hn h1 h2 hv hcell
  go_enter Try.func32, Try.ntmps32
  go_wp2_with fail
  go_ret
  exact ⟨rfl, rfl⟩

/-- Spoil writes into its own slice's block alone. -/
theorem spoil_any (A : Option Addr) (n c B : Nat) (l : List UInt8) (w : World) (hl : n ≤ 35184372088832) (hO : Own w B 5 1 A n c (l.map bv)) (hB : B ≤ w.heap.size) :
    Calls Try.prog 23 #[.slice A n c] w fun e w' => e = .returned (.tuple #[]) ∧ w.grownBy w' (Value.ownBlock (.slice A n c)) := by
  obtain ⟨i0, hi0, hz0, hz1, hz2⟩ := info_parts infoU8
  go_enter Try.func23, Try.ntmps23
  go_wp2
  go_loopw [2] (fun i wr => ∃ k zs, k ≤ n ∧ i = .int .i64 (k : Nat) ∧ Own wr B 5 1 A n c (List.map (Value.int .u8) zs) ∧ w.grownBy wr (Value.ownBlock (.slice A n c))) (fun i _ => n - (intOf i).toNat)
  case atStart => exact ⟨0, l.map (fun c => (c.toNat : Int)), by omega, rfl, by rw [List.map_map]; exact hO, World.grownBy.refl _ _⟩
  case round =>
    obtain ⟨k, zs, hk, rfl, hOr, hgr⟩ := hrel
    by_cases hlt : k < n
    · obtain ⟨g, u, rfl, hg1, hg2, hu, hcell, hfr⟩ := hOr.cell hlt
      obtain ⟨z, hz, rfl⟩ : ∃ z, zs[k]? = some z ∧ u = .int .u8 z := by
        rw [List.getElem?_map] at hu
        obtain ⟨z, h1, h2⟩ := Option.map_eq_some_iff.1 hu
        exact ⟨z, h1, h2.symm⟩
      clear hu hz
      go_wp2_with fail
      go_roundw
      case rel => exact ⟨k + 1, _, by omega, by go_num, by rw [List.map_set]; exact hOr.stored _ _, grown_set hgr (.inl rfl) _ _⟩
      case measure => simp [intOf]; omega
    · have hB2 : B ≤ wr.heap.size := Nat.le_trans hB hgr.size
      go_wp2_with (first
        | (at_builtin; refine wpList_app _ rfl (.tmp 17) (.tmp 18) _ rfl B 5 i0 _ 1 1 Try.underlying23 hi0 hz0 hz1 hz2 rfl (by omega) _ _ _ _ rfl (hOr.alloc _) _ _ _ _ rfl rfl (Sl.one _ _ _) (by intro u hu; simp at hu; subst hu; rfl) (by unfold maxLen; omega) (by omega) (by simp; omega) (n + 1) rfl _ rfl ?_; intro A4 c4 w4 hown4 hg4 hat4 hb4; obtain ⟨g, u, rfl, hg1, hg2, hu, hcell, hfr⟩ := hown4.cell (k := n) (by omega)))
      go_end0
      refine ⟨rfl, grown_set ((grown_alloc hgr _).trans hg4) ?_ _ _⟩
      have hs := hgr.size
      rcases hat4 with h | h
      · left; rw [← h]; rfl
      · right; simp at h; omega
end Go.Proofs.Ytabgdfbiocoimaa

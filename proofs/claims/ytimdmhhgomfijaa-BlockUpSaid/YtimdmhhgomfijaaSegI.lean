/- Package seg: Answer, Receive. -/
import Derived.Test.YtimdmhhgomfijaaSegH
namespace Go.Proofs.Ytimdmhhgomfijaa
set_option linter.unusedVariables false
set_option linter.unusedSimpArgs false
set_option linter.unnecessarySimpa false
open Go.RowKit
set_option maxRecDepth 100000
set_option maxHeartbeats 4000000
theorem seg_answer (p pd : Nat) (S : SegS) (code : Nat) (A : Option Addr) (n c : Nat) (w : World) (hB : Blk w p 55 (srvV S pd A n c)) :
    Calls Try.prog 16 #[.pointer (some ⟨p, 0, none⟩), .int .u32 (code : Nat)] w fun e w' => (S.st ≠ 3 → e = .returned (.slice none 0 0) ∧ w' = w) ∧
      (S.st = 3 → ∃ g, w.heap.size ≤ g ∧ e = .returned (.slice (some ⟨g, 0, none⟩) 1 1) ∧ Blk w' g 39 (msV (if code = 0 then wellM S else abM S.ix S.sub code) none 0 0) ∧ Blk w' p 55 (srvV (segIdle S) pd A n c) ∧ Only (fun k => k = p) w w') := by
  have HB := hide hB
  have c1 : w.cell? ⟨p, 1, none⟩ = some (.int .i64 S.st) := hB.cell 1 rfl
  have hz := hB.lt
  by_cases h3 : S.st = 3
  · rw [h3] at c1
    have H3 := hide h3
    clear h3
    by_cases h0 : code = 0
    · subst h0
      have bb := hB
      unfold srvV at bb
      rw [H3.out] at bb
      have bb_c0 := bb.cell 0 rfl
      have bb_f0 := bb.frozen 0
      have bb_c1 := bb.cell 1 rfl
      have bb_f1 := bb.frozen 1
      have bb_c2 := bb.cell 2 rfl
      have bb_f2 := bb.frozen 2
      have bb_c3 := bb.cell 3 rfl
      have bb_f3 := bb.frozen 3
      have bb_c4 := bb.cell 4 rfl
      have bb_f4 := bb.frozen 4
      have bb_c5 := bb.cell 5 rfl
      have bb_f5 := bb.frozen 5
      have bb_c6 := bb.cell 6 rfl
      have bb_f6 := bb.frozen 6
      have bb_c7 := bb.cell 7 rfl
      have bb_f7 := bb.frozen 7
      have bb_c8 := bb.cell 8 rfl
      have bb_f8 := bb.frozen 8
      have bb_c9 := bb.cell 9 rfl
      have bb_f9 := bb.frozen 9
      have bb_c10 := bb.cell 10 rfl
      have bb_f10 := bb.frozen 10
      have bb_c11 := bb.cell 11 rfl
      have bb_f11 := bb.frozen 11
      have bb_c12 := bb.cell 12 rfl
      have bb_f12 := bb.frozen 12
      have bb_c13 := bb.cell 13 rfl
      have bb_f13 := bb.frozen 13
      have bb_c14 := bb.cell 14 rfl
      have bb_f14 := bb.frozen 14
      have bb_c15 := bb.cell 15 rfl
      have bb_f15 := bb.frozen 15
      have bb_c16 := bb.cell 16 rfl
      have bb_f16 := bb.frozen 16
      have bb_c17 := bb.cell 17 rfl
      have bb_f17 := bb.frozen 17
      have bb_c18 := bb.cell 18 rfl
      have bb_f18 := bb.frozen 18
      have bb_c19 := bb.cell 19 rfl
      have bb_f19 := bb.frozen 19
      have bb_c20 := bb.cell 20 rfl
      have bb_f20 := bb.frozen 20
      have bb_c21 := bb.cell 21 rfl
      have bb_f21 := bb.frozen 21
      have hs : Hid (Blk (w.setCell ⟨p, 1, none⟩ (.int .i64 0)) p 55 (srvV (segIdle S) pd A n c)) := hide (HB.out.set_ 1 (.int .i64 0))
      have ho : Only (fun k => k = p) w (w.setCell ⟨p, 1, none⟩ (.int .i64 0)) := Only.of_set (F := fun k => k = p) rfl _
      have hz0 : (w.setCell ⟨p, 1, none⟩ (.int .i64 0)).heap.size = w.heap.size := by simp [World.setCell]
      have hg := Blk.new (w.setCell ⟨p, 1, none⟩ (.int .i64 0)) 39 (msV (wellM S) none 0 0)
      rw [hz0] at hg
      have HR := hide (And.intro hg (And.intro (hs.out.alloc (.cells (msV (wellM S) none 0 0) 39)) (ho.new (.cells (msV (wellM S) none 0 0) 39))))
      clear hg hs ho hz0 hB bb
      unfold msV wellM okM at HR
      go_enter Try.func16, Try.ntmps16
      go_wp2_with fail
      go_ret
      exact ⟨fun h => absurd H3.out h, fun _ => ⟨w.heap.size, Nat.le_refl _, rfl, HR.out⟩⟩
    · have HA := hide (seg_abort p pd S code A n c w hB)
      have HC := hide h0
      have hne : ¬ (code : Int) = 0 := by omega
      clear hB h0
      go_enter Try.func16, Try.ntmps16
      go_wp2_with fail
      refine HA.out.mono ?_
      rintro e w1 ⟨_, h5⟩
      obtain ⟨g, hg, rfl, hBg, hBp, ho⟩ := h5 (by rw [H3.out]; decide)
      have HX := hide (And.intro hBg (And.intro hBp ho))
      clear hBg hBp ho h5
      go_wp2_with fail
      go_ret
      exact ⟨fun h => absurd H3.out h, fun _ => ⟨g, hg, rfl, HX.out⟩⟩
  · obtain ⟨s, hs⟩ : ∃ s, s = S.st := ⟨_, rfl⟩
    have H3 := hide h3
    rw [← hs] at c1
    have hne : (s == 3) = false := by simp [hs, h3]
    have hne2 : ¬ s = 3 := by rw [hs]; exact h3
    clear hB hs h3
    go_enter Try.func16, Try.ntmps16
    go_wp2_with fail
    all_goals
      go_ret
      exact ⟨fun _ => ⟨rfl, rfl⟩, fun h => absurd h H3.out⟩
theorem seg_answer0 (code : Nat) (w : World) : Calls Try.prog 16 #[.pointer none, .int .u32 (code : Nat)] w fun e w' => e = .returned (.slice none 0 0) ∧ w = w' := by
  go_enter Try.func16, Try.ntmps16
  go_wp2_with fail
  go_ret
  exact ⟨rfl, rfl⟩
/-- an answer of an inner call is handed on -/
theorem fin_lift {w W' w3 : World} {G G' : Nat → Prop} {p pd : Nat} {S' : SegS} {O : SegO} {X : Nat → Prop} {As : Option Addr} {ns cs : Nat} {A : Option Addr} {n c : Nat} (hz : w.heap.size + 2 ≤ W'.heap.size) (hO : Only (fun q => q = p) w W') (hp : p < w.heap.size) (hK : Blk W' (w.heap.size + 1) 44 (outV none 0 0 outZ none 0 0)) (hG : ∀ q, G' q → (G q ∨ w.heap.size ≤ q) ∧ q ≠ w.heap.size + 1)
    (h1 : MsR w3 W'.heap.size X As ns cs O.ms) (h2 : OwnB w3 W'.heap.size A n c O.b) (h3 : FIn X A) (h4 : SV_ w3 (fun q => (G' q ∨ W'.heap.size ≤ q) ∧ ¬ X q) p pd S') (h5 : Only (fun q => q = p) W' w3) :
    Blk (putO w3 (w.heap.size + 1) As ns cs O A n c) (w.heap.size + 1) 44 (outV As ns cs O A n c) ∧ SOutR w G p pd S' O (.returned (.agg (outV As ns cs O A n c))) (putO w3 (w.heap.size + 1) As ns cs O A n c) := by
  have hK3 := blk_only hK h5 (by omega)
  refine ⟨putO_blk hK3, X, As, ns, cs, A, n, c, rfl, ?_, (putO_own h2 (by omega) _ _ _ _ _ _ _).mono (by omega), h3, ?_, putO_only (hO.trans h5 (fun _ _ h => h)) (by omega) _ _ _ _ _ _ _⟩
  · rcases h1 with ⟨a, b, c', d⟩ | ⟨M, g, A', n', c', a, b, c1, d, e, f, g1, g2⟩
    · exact .inl ⟨a, b, c', d⟩
    · exact .inr ⟨M, g, A', n', c', a, b, c1, d, by omega, putO_far f (by omega) _ _ _ _ _ _ _, (putO_own g1 (by omega) _ _ _ _ _ _ _).mono (by omega), g2⟩
  · refine h4.keep (fun q hq hlt => putO_heap ?_ _ _ _ _ _ _ _) (by rw [putO_size]; exact Nat.le_refl _) (fun q _ hq => ⟨?_, hq.2⟩)
    · rcases hq with rfl | hq
      · omega
      · rcases hq.1 with h | h
        · exact (hG q h).2
        · omega
    · rcases hq.1 with h | h
      · exact (hG q h).1
      · exact .inr (by omega)
end Go.Proofs.Ytimdmhhgomfijaa

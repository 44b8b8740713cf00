/- The walk of RecordParses. -/
import Derived.Test.YtapfadaplncpeaaRecK
namespace Go.Proofs.Ytapfadaplncpeaa
set_option linter.unusedVariables false
set_option linter.unusedSimpArgs false
set_option linter.unnecessarySimpa false
open Go.RowKit
set_option maxRecDepth 20000
set_option maxHeartbeats 1000000
attribute [local go_sem ↓] Go.wp_at_zero Go.wp_at_succ

theorem same_self (k : Int) (m : Nat) (l : List UInt8) : sameR k m l k m l = true := by simp [sameR]
/-- what Spoil leaves of a row of an older block -/
theorem own_spoilt {w w' : World} {B B2 e e2 n n2 c c2 : Nat} {A A2 : Option Addr} {xs ys : List Value} (h : Own w B e 1 A n c xs) (h2 : Own w B2 e2 1 A2 n2 c2 ys) (hg : w.grownBy w' (Value.ownBlock (.slice A2 n2 c2)))
    (hne : ∀ g, A = some ⟨g, 0, none⟩ → g < B2) : Own w' B e 1 A n c xs := by
  refine h.grown hg ?_
  intro g hA he
  have hlt := hne g hA
  rcases h2.shape with ⟨h1, _⟩ | ⟨g2, h1, h3, _⟩
  · rw [h1] at he; simp [Value.ownBlock] at he
  · rw [h1] at he
    simp [Value.ownBlock] at he
    omega
theorem blk_spoilt {w w' : World} {B2 e2 n2 c2 g : Nat} {t : TypeId} {cs : Array Value} {A2 : Option Addr} {ys : List Value} (h : Blk w g t cs) (h2 : Own w B2 e2 1 A2 n2 c2 ys) (hg : w.grownBy w' (Value.ownBlock (.slice A2 n2 c2)))
    (hne : g < B2) : Blk w' g t cs := by
  refine h.grown hg ?_
  intro he
  rcases h2.shape with ⟨h1, _⟩ | ⟨g2, h1, h3, _⟩
  · rw [h1] at he; simp [Value.ownBlock] at he
  · rw [h1] at he
    simp [Value.ownBlock] at he
    omega
theorem below_spoilt {W w w' : World} {N B e n c : Nat} {A : Option Addr} {xs : List Value} (hb : Below N W w) (h : Own w B e 1 A n c xs) (hg : w.grownBy w' (Value.ownBlock (.slice A n c))) (hN : N ≤ B) (hNw : N ≤ w.heap.size) : Below N W w' :=
  hb.grown hg hNw (by
    intro g' hg'
    rcases h.shape with ⟨h1, _⟩ | ⟨g1, h1, h2, _⟩
    · rw [h1] at hg'; simp [Value.ownBlock] at hg'
    · rw [h1] at hg'; simp [Value.ownBlock] at hg'; omega)

theorem recordParses_walk (A : Option Addr) (n c : Nat) (at_ : Int) (l : List UInt8) (w : World) (hn : n = l.length) (hc : n ≤ c) (hs : Sl w A (l.map bv)) :
    Calls Try.prog 6 #[.slice A n c, .int .i64 at_] w (TrueB w) := by
  by_cases hbig : 10000 < n
  · clear hn
    go_enter Try.func6, Try.ntmps6
    go_wp2_with fail
    refine (known_07 _).mono ?_
    rintro e w1 ⟨rfl, hb1⟩
    go_wp2_with fail
    go_ret
    exact (⟨rfl, hb1⟩ : TrueB w _ _)
  obtain ⟨p, hp⟩ : ∃ p, p = recParse l at_ := ⟨_, rfl⟩
  have HP := hide hp
  have HN := hide hn
  clear hp hn
  go_enter Try.func6, Try.ntmps6
  go_wp2_with fail
  refine (lent_any A n c l w HN.out (by omega) hs).mono ?_
  rintro e w1 ⟨g, c1, rfl, hO1, hb1⟩
  have hc1 := hO1.le
  have hs1 : Sl w1 (some ⟨g, 0, none⟩) (l.map bv) := by
    have := hO1.sl.take n
    rw [List.map_append, HN.out, List.take_left' (by simp)] at this
    exact this
  obtain ⟨g', hg', hg1, hg2⟩ := hO1.own.at_ (by omega)
  injection hg' with hg'
  injection hg' with hg'
  subst hg'
  go_wp2_with fail
  refine (rec_parse (some ⟨g, 0, none⟩) n c1 at_ l w1 p HP.out HN.out (by omega) (by omega) hs1).mono ?_
  rintro e w2 ⟨A2, n2, c2, rfl, hO2, hb2⟩
  obtain ⟨k, m, d, to, er⟩ := p
  simp only [] at hO2 ⊢
  have hbw2 := below_step hb2 hb1
  have kr := blk_one w2 40 #[.int .i64 k, .int .u32 (m : Nat), .slice A2 n2 c2]
  have z2 := kr.lt
  have hbr := below_alloc hbw2 (.cells #[.int .i64 k, .int .u32 (m : Nat), .slice A2 n2 c2] 40)
  go_wp2_with fail
  refine (rrec_parse A n c at_ l _ _ HP.out HN.out hc (by omega) (hs.below hbr)).mono ?_
  rintro e w3 ⟨A3, n3, c3, rfl, hO3, hb3⟩
  simp only [] at hO3 ⊢
  have hbw3 := below_step hb3 hbr
  have kr3 := (kr.below hb3 z2).alloc (.cells #[.int .i64 k, .int .u32 (m : Nat), .slice A3 n3 c3] 40)
  have ks3 := blk_one w3 40 #[.int .i64 k, .int .u32 (m : Nat), .slice A3 n3 c3]
  have r0 := kr3.cell 0 rfl
  have r1 := kr3.cell 1 rfl
  have r2 := kr3.cell 2 rfl
  have z3 := (kr.below hb3 z2).lt
  have hO23 : OwnB w3 w1.heap.size A2 n2 c2 d := (hO2.alloc _).below hb3
  have hbs := below_alloc hbw3 (.cells #[.int .i64 k, .int .u32 (m : Nat), .slice A3 n3 c3] 40)
  go_wp2_with fail
  refine (rsame A2 A3 k k m m n2 c2 n3 c3 d d _ hO23.hn hO3.hn (hO23.sl.alloc _) (hO3.sl.alloc _)).mono ?_
  rw [same_self]
  rintro e w4 ⟨rfl, hb4⟩
  have hO24 := (hO23.alloc (.cells #[.int .i64 k, .int .u32 (m : Nat), .slice A3 n3 c3] 40)).below hb4
  have hbw4 := below_step hb4 hbs
  have hO14 : OwnB w4 w.heap.size (some ⟨g, 0, none⟩) (n + 1) c1 (l ++ [77]) := ((((hO1.below hb2).alloc _).below hb3).alloc _).below hb4
  have hs14 : Sl w4 (some ⟨g, 0, none⟩) (l.map bv) := ((((hs1.below hb2).alloc _).below hb3).alloc _).below hb4
  have kr4 := kr3.below hb4 (by simp; omega)
  clear r0 r1 r2 kr kr3 ks3
  go_wp2_with fail
  refine (rec_blank (some ⟨g, 0, none⟩) n c1 l w4 HN.out (by omega) hs14).mono ?_
  rintro e w5 ⟨rfl, rfl⟩
  go_wp2_with fail
  refine (rblank A n c l w4 HN.out (by omega) (hs.below hbw4)).mono ?_
  rintro e w5 ⟨rfl, rfl⟩
  have r2 := kr4.cell 2 rfl
  have ln2 : n2 ≤ 35184372088832 := by
    have h1 := HP.out
    rcases recParse_cases l at_ with ⟨er, her, he⟩ | ⟨_, _, x, hx, _, _, _, _, _, _, he⟩
    · rw [he] at h1; injection h1 with _ _ h1; rw [hO2.hn, h1]; simp
    · rw [he] at h1; injection h1 with _ _ h1; rw [hO2.hn, h1, hx]; have := HN.out; simp; omega
  have hbb : (blankB l == blankB l) = true := by simp
  go_wp2_with fail
  refine (spoil_any A2 n2 c2 w1.heap.size d w4 ln2 hO24.own (by have := hb2.size; have := hb3.size; have := hb4.size; simp at *; omega)).mono ?_
  rintro e w5 ⟨rfl, hg5⟩
  have hO15 := own_spoilt hO14.own hO24.own hg5 (by intro g' hg'; injection hg' with hg'; injection hg' with hg'; omega)
  have hbw5 : Below w.heap.size w w5 := below_spoilt hbw4 hO24.own hg5 hb1.size hbw4.size
  go_wp2_with fail
  refine (kept_yes g A n c1 c l w5 HN.out (by omega) hc1 hO15.sl (hs.below hbw5)).mono ?_
  rintro e w6 ⟨rfl, rfl⟩
  go_wp2_with fail
  refine (known_07 _).mono ?_
  rintro e w6 ⟨rfl, hb6⟩
  go_wp2_with fail
  go_ret
  exact (⟨rfl, below_step hb6 hbw5⟩ : TrueB w _ _)
end Go.Proofs.Ytapfadaplncpeaa

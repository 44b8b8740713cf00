/- Package record: what stands ahead of the data. -/
import Derived.Test.YtfddfgonhgidbaaRecC
namespace Go.Proofs.Ytfddfgonhgidbaa
set_option linter.unusedVariables false
set_option linter.unusedSimpArgs false
set_option linter.unnecessarySimpa false
open Go.RowKit
set_option maxRecDepth 20000
set_option maxHeartbeats 1000000
attribute [local go_sem ↓] Go.wp_at_zero Go.wp_at_succ

theorem front1 (A : Option Addr) (n c gb ga : Nat) (at_ wd : Int) (l : List UInt8) (x : Nat) (w : World) (hB : Blk w gb 22 #[.slice A n c]) (hA : Blk w ga 3 #[.int .i64 at_])
    (hn : n = l.length) (hc : n ≤ c) (hl : n ≤ 35184372088832) (hs : Sl w A (l.map bv)) (h0 : 0 ≤ at_) (at2 : Int) (h2 : at_ + wd = at2) (h1 : 1 ≤ wd) (h8 : wd ≤ 8) (ha : at_ + wd ≤ n) (hx : x = leN ((l.drop at_.toNat).take wd.toNat)) :
    Calls Try.prog 158 #[.int .i64 wd, .pointer (some ⟨gb, 0, none⟩), .pointer (some ⟨ga, 0, none⟩)] w fun e w' => e = .returned (.int .u64 (x : Nat)) ∧ Blk w' ga 3 #[.int .i64 at2] ∧ w.grownBy w' (some ga) := by
  have HG := hide (get_ok' A n c l at_ wd w hn hc (by omega) h0 ha h1 h8 hs)
  rw [← hx] at HG
  have b0 := hB.cell 0 rfl
  have a0 := hA.cell 0 rfl
  have f0 := hA.frozen 0
  have zb := hB.lt
  have za := hA.lt
  have HH2 := hide h2
  clear hn hx h2
  go_enter Try.func158, Try.ntmps158
  go_wp2_with fail
  refine HG.out.mono ?_
  rintro e w1 ⟨rfl, rfl⟩
  go_wp2_with fail
  go_ret
  have h2 := HH2.out
  subst h2
  exact ⟨rfl, hA.set_ 0 _, grown_set (World.grownBy.refl _ _) (.inl rfl) _ _⟩

theorem rec_front (A : Option Addr) (n c : Nat) (l : List UInt8) (w : World) (x1 x2 x3 : Nat) (hn : n = l.length) (hc : n ≤ c) (hl : n ≤ 35184372088832) (h13 : 13 ≤ n) (hs : Sl w A (l.map bv))
    (hx1 : x1 = leN ((l.drop 1).take 1)) (hx2 : x2 = leN ((l.drop 2).take 4)) (hx3 : x3 = leN ((l.drop 6).take 2)) (l1 : x1 ≤ 255) (l2 : x2 ≤ 4294967295) (l3 : x3 ≤ 65535) :
    Calls Try.prog 140 #[.slice A n c] w fun e w' => e = .returned (.tuple #[.agg #[.int .i64 (x1 : Nat), .int .u32 (x2 : Nat), .slice none 0 0], .int .i64 (x3 : Nat)]) ∧ Below w.heap.size w w' := by
  have hk := blk_three w 22 39 3 #[.slice A n c] #[.int .i64 0, .int .u32 0, .slice none 0 0] #[.int .i64 1]
  have hs3 := ((hs.alloc (.cells #[.slice A n c] 22)).alloc (.cells #[.int .i64 0, .int .u32 0, .slice none 0 0] 39)).alloc (.cells #[.int .i64 1] 3)
  have hb3 := below_alloc (below_alloc (below_alloc (Below.refl w.heap.size w) (.cells #[.slice A n c] 22)) (.cells #[.int .i64 0, .int .u32 0, .slice none 0 0] 39)) (.cells #[.int .i64 1] 3)
  have HF1 := hide (front1 A n c w.heap.size (w.heap.size + 1 + 1) 1 1 l x1 _ hk.1 hk.2.2 hn hc hl hs3 (by omega) 2 rfl (by omega) (by omega) (by omega) hx1)
  have HK := hide hk
  have HN := hide hn
  have HX := hide (And.intro hx2 hx3)
  clear hk hn hx1 hx2 hx3
  go_enter Try.func140, Try.ntmps140
  go_wp2_with fail
  refine HF1.out.mono ?_
  rintro e w1 ⟨rfl, hA1, hg1⟩
  have hB1 := HK.out.1.grown hg1 (by intro h; injection h with h; omega)
  have hR1 := HK.out.2.1.grown hg1 (by intro h; injection h with h; omega)
  have hbw1 := hb3.grown hg1 (by simp; omega) (fun k hk => by injection hk with hk; omega)
  have hs1 := hs.below hbw1
  have z1 := hA1.lt
  go_wp2_with fail
  refine (front1 A n c w.heap.size (w.heap.size + 1 + 1) 2 4 l x2 w1 hB1 hA1 HN.out hc hl hs1 (by omega) 6 rfl (by omega) (by omega) (by omega) HX.out.1).mono ?_
  rintro e w2 ⟨rfl, hA2, hg2⟩
  have hB2 := hB1.grown hg2 (by intro h; injection h with h; omega)
  have hR2 := hR1.grown hg2 (by intro h; injection h with h; omega)
  have hbw2 := hbw1.grown hg2 (by omega) (fun k hk => by injection hk with hk; omega)
  have z2 := hA2.lt
  have hX3 := blk_one w2 39 #[.int .i64 (x1 : Nat), .int .u32 (x2 : Nat), .slice none 0 0]
  have hB3 := hB2.alloc (.cells #[.int .i64 (x1 : Nat), .int .u32 (x2 : Nat), .slice none 0 0] 39)
  have hR3 := hR2.alloc (.cells #[.int .i64 (x1 : Nat), .int .u32 (x2 : Nat), .slice none 0 0] 39)
  have hA3 := hA2.alloc (.cells #[.int .i64 (x1 : Nat), .int .u32 (x2 : Nat), .slice none 0 0] 39)
  have hbw3 := below_alloc hbw2 (.cells #[.int .i64 (x1 : Nat), .int .u32 (x2 : Nat), .slice none 0 0] 39)
  have HF3 := hide (fun W (hB : Blk W w.heap.size 22 #[.slice A n c]) (hA : Blk W (w.heap.size + 1 + 1) 3 #[.int .i64 6]) (hb : Below w.heap.size w W) =>
    front1 A n c w.heap.size (w.heap.size + 1 + 1) 6 2 l x3 W hB hA HN.out hc hl (hs.below hb) (by omega) 8 rfl (by omega) (by omega) (by omega) HX.out.2)
  have zz : w2.heap.size < (w2.alloc (.cells #[.int .i64 (x1 : Nat), .int .u32 (x2 : Nat), .slice none 0 0] 39)).heap.size := hX3.lt
  have i3 : IntKind.i64.wrap (x3 : Int) = x3 := IntWalk.i64_in _ (by omega)
  have HH := hide (And.intro hX3 (And.intro hB3 (And.intro hR3 (And.intro hA3 hbw3))))
  clear hX3 hB3 hR3 hA3 hB1 hR1 hA1 hg1 hs1 hB2 hR2 hA2 hg2 hs3 HF1
  go_wp2_with fail
  generalize w2.alloc (.cells #[.int .i64 (x1 : Nat), .int .u32 (x2 : Nat), .slice none 0 0] 39) = W at *
  generalize w2.heap.size = g at *
  obtain ⟨hX, hB, hR, hA, hb⟩ := HH.out
  clear HH
  have r0 := hR.cell 0 rfl
  have r1 := hR.cell 1 rfl
  have r2 := hR.cell 2 rfl
  have f0 := hR.frozen 0
  have f1 := hR.frozen 1
  have f2 := hR.frozen 2
  refine wp_region_held_drew (S := (fun w' => w'.cell? ⟨g, 0, none⟩ = some (.int .i64 (x1 : Nat)) ∧ w'.cell? ⟨g, 1, none⟩ = some (.int .u32 (x2 : Nat)) ∧ w'.cell? ⟨g, 2, none⟩ = some (.slice none 0 0))) (by kernel_rfl) ?hS1 (fun hHeld => ?rest1)
  case hS1 => ((try dsimp only); (exact ⟨hX.cell 0 rfl, hX.cell 1 rfl, hX.cell 2 rfl⟩))
  case' rest1 => skip
  refine wpAnyH_take (i := 0) (oi := _) (v := ?v2) rfl (by kernel_rfl) (by kernel_rfl) (by kernel_rfl) (fun _ _ _ h => h) (Or.inl ⟨by rfl, ?hy2⟩) (by assumption) ?rest2
  case hy2 => ((intro w hSw; (try dsimp only at hSw); go_simp) <;> with_reducible rfl)
  case' rest2 => try simp only [List.getElem_toArray, List.getElem_cons_zero, List.getElem_cons_succ, Act.put, List.setIfInBounds_toArray, List.set_cons_zero, List.set_cons_succ]
  refine wpAnyH_take (i := 1) (oi := _) (v := ?v3) rfl (by kernel_rfl) (by kernel_rfl) (by kernel_rfl) (fun _ _ _ h => h) (Or.inl ⟨by rfl, ?hy3⟩) (by assumption) ?rest3
  case hy3 => ((intro w hSw; (try dsimp only at hSw); go_simp) <;> with_reducible rfl)
  case' rest3 => try simp only [List.getElem_toArray, List.getElem_cons_zero, List.getElem_cons_succ, Act.put, List.setIfInBounds_toArray, List.set_cons_zero, List.set_cons_succ]
  refine wpAnyH_ready (rs := [2]) (by kernel_rfl) (by simp) ?_
  refine AllReadyH.cons (o := _) rfl (fun K hK => ?_) AllReadyH.nil
  go_simp
  refine (HF3.out _ hB.drew hA.drew hb.drew).mono ?_
  rintro e w3 ⟨rfl, hA3, hg3⟩
  have hX3 := hX.drew.grown hg3 (by intro h; injection h with h; omega)
  have hR3 := hR.drew.grown hg3 (by intro h; injection h with h; omega)
  have hb3' := hb.drew.grown hg3 (by simp; omega) (fun k hk => by injection hk with hk; omega)
  have q0 := hR3.cell 0 rfl
  have q1 := hR3.cell 1 rfl
  have q2 := hR3.cell 2 rfl
  have e0 := hR3.frozen 0
  have e1 := hR3.frozen 1
  have e2 := hR3.frozen 2
  dsimp only
  refine hK.out _ _ ?hS6 (fun hHeld => ?rest6)
  case hS6 => ((try dsimp only); (exact ⟨hX3.cell 0 rfl, hX3.cell 1 rfl, hX3.cell 2 rfl⟩))
  case' rest6 => (clear hK K; try simp only [List.getElem_toArray, List.getElem_cons_zero, List.getElem_cons_succ, Act.put, List.setIfInBounds_toArray, List.set_cons_zero, List.set_cons_succ])
  refine wpAnyH_take (i := 3) (oi := _) (v := ?v7) rfl (by kernel_rfl) (by kernel_rfl) (by kernel_rfl) (fun _ _ _ h => h) (Or.inl ⟨by rfl, ?hy7⟩) (by assumption) ?rest7
  case hy7 => ((intro w hSw; (try dsimp only at hSw); go_simp) <;> with_reducible rfl)
  case' rest7 => try simp only [List.getElem_toArray, List.getElem_cons_zero, List.getElem_cons_succ, Act.put, List.setIfInBounds_toArray, List.set_cons_zero, List.set_cons_succ]
  refine wpAnyH_ready (rs := [4]) (by kernel_rfl) (by simp) ?_
  refine AllReadyH.cons (o := _) rfl (fun K hK => ?_) AllReadyH.nil
  go_simp
  refine hK.out _ _ ?hS10 (fun hHeld => ?rest10)
  case hS10 => ((try dsimp only); (exact ⟨((((hX3.far (by simp; omega) _).far (by simp; omega) _).far (by simp; omega) _)).cell 0 rfl, ((((hX3.far (by simp; omega) _).far (by simp; omega) _).far (by simp; omega) _)).cell 1 rfl, ((((hX3.far (by simp; omega) _).far (by simp; omega) _).far (by simp; omega) _)).cell 2 rfl⟩))
  case' rest10 => (clear hK K; try simp only [List.getElem_toArray, List.getElem_cons_zero, List.getElem_cons_succ, Act.put, List.setIfInBounds_toArray, List.set_cons_zero, List.set_cons_succ])
  refine wpAnyH_ready (rs := [5]) (by kernel_rfl) (by simp) ?_
  refine AllReadyH.cons (o := _) rfl (fun K hK => ?_) AllReadyH.nil
  go_simp
  refine hK.out _ _ ?hS13 (fun hHeld => ?rest13)
  case hS13 => ((try dsimp only); (assumption))
  case' rest13 => (clear hK K; try simp only [List.getElem_toArray, List.getElem_cons_zero, List.getElem_cons_succ, Act.put, List.setIfInBounds_toArray, List.set_cons_zero, List.set_cons_succ])
  refine wpAnyH_done (by kernel_rfl) ?_ _
  have hRf := ((hR3.set_ 0 (.int .i64 (x1 : Nat))).set_ 1 (.int .u32 (x2 : Nat))).set_ 2 (.slice none 0 0)
  have hbf := ((hb3'.setCell (p := ⟨w.heap.size + 1, 0, none⟩) (by simp) (.int .i64 (x1 : Nat))).setCell (p := ⟨w.heap.size + 1, 1, none⟩) (by simp) (.int .u32 (x2 : Nat))).setCell (p := ⟨w.heap.size + 1, 2, none⟩) (by simp) (.slice none 0 0)
  have d0 := hRf.cell 0 rfl
  have d1 := hRf.cell 1 rfl
  have d2 := hRf.cell 2 rfl
  clear q0 q1 q2 e0 e1 e2
  repeat (clear hHeld)
  generalize ((w3.setCell ⟨w.heap.size + 1, 0, none⟩ (.int .i64 (x1 : Nat))).setCell ⟨w.heap.size + 1, 1, none⟩ (.int .u32 (x2 : Nat))).setCell ⟨w.heap.size + 1, 2, none⟩ (.slice none 0 0) = W4 at *
  go_wp2_with fail
  refine bodyPost_ret (v := .tuple #[.agg #[.int .i64 (x1 : Nat), .int .u32 (x2 : Nat), .slice none 0 0], .int .i64 (x3 : Nat)]) (by simp [results, Try.results140, go_sem, d0, d1, d2]) rfl ⟨rfl, hbf⟩
end Go.Proofs.Ytfddfgonhgidbaa

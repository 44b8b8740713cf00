/- Law 19: a case's situation: its world, its dictionary, its flash and its vault; what each call makes of it. -/
import Derived.Test.YtehabbnohoomjaaGreatDoorC42
import Derived.Test.YtehabbnohoomjaaGreatDoorC43
import Derived.Test.YtehabbnohoomjaaGreatDoorC33
import Derived.Test.YtehabbnohoomjaaGreatDoorC41
namespace Go.Proofs.YtehabbnohoomjaaGreatDoor
section
set_option linter.unusedVariables false
set_option linter.unusedSimpArgs false
set_option linter.unnecessarySimpa false
open Go.RowKit
set_option maxRecDepth 20000
set_option maxHeartbeats 8000000

structure Sit (K : Nat → Prop) (M lo : Nat) (w : World) (pw pd gl n cl cv : Nat) (Av : Option Addr) (L : List Ent) (V : List (List UInt8)) (ds es : List (Option Addr × Nat)) (Fd : Nat → Prop) (q : FP) (pt pr : Nat)
    (Fj FL : Nat → Prop) (pv pj nj cj : Nat) (Aj : Option Addr) (dj : List (Option Addr × Nat)) (As : Option Addr) (ns cs : Nat) (dx : List (Option Addr × Nat)) (J : JS) (S : FS) (X : List SV) (odd off : Bool) : Prop where
  blk : Blk w pw 44 #[.pointer (some ⟨pd, 0, none⟩), .pointer (some ⟨pt, 0, none⟩), .pointer (some ⟨q.p, 0, none⟩), .pointer (some ⟨pr, 0, none⟩), .pointer none, .pointer none]
  db : DB 102 w Fd pd (some ⟨gl, 0, none⟩) n cl Av cv L V ds es
  hn : n = L.length
  vd : VD w M Fj FL pv pj q Aj nj cj dj As ns cs dx J S X odd off
  inD : ∀ g, Fd g → lo ≤ g ∧ g < w.heap.size ∧ g ≠ pw ∧ ¬ K g ∧ ¬ (Fj g ∨ q.F g ∨ FL g ∨ g = pv)
  inV : ∀ g, Fj g ∨ q.F g ∨ FL g ∨ g = pv → lo ≤ g ∧ g < w.heap.size ∧ g ≠ pw ∧ ¬ K g
  inK : ∀ g, K g → g < w.heap.size
  loP : lo ≤ pw
  loM : M ≤ lo
def SitE (K : Nat → Prop) (M lo : Nat) (w : World) (pw pd pv : Nat) (q : FP) (n : Nat) (L : List Ent) (V : List (List UInt8)) (J : JS) (S : FS) (X : List SV) (odd off : Bool) : Prop :=
  ∃ gl cl cv Av ds es Fd pt pr Fj FL pj nj cj Aj dj As ns cs dx, Sit K M lo w pw pd gl n cl cv Av L V ds es Fd q pt pr Fj FL pv pj nj cj Aj dj As ns cs dx J S X odd off
def FreeK (K : Nat → Prop) (lo : Nat) : Nat → Prop := fun g => lo ≤ g ∧ ¬ K g
section
variable {K : Nat → Prop} {M lo pw pd pv n : Nat} {q : FP} {L : List Ent} {V : List (List UInt8)} {J : JS} {S : FS} {X : List SV} {odd off : Bool} {w w' : World}
theorem SitE.cells (h : SitE K M lo w pw pd pv q n L V J S X odd off) : ∃ pt pr, w.cell? ⟨pw, 0, none⟩ = some (.pointer (some ⟨pd, 0, none⟩)) ∧ w.cell? ⟨pw, 1, none⟩ = some (.pointer (some ⟨pt, 0, none⟩)) ∧ w.cell? ⟨pw, 2, none⟩ = some (.pointer (some ⟨q.p, 0, none⟩)) ∧ w.cell? ⟨pw, 3, none⟩ = some (.pointer (some ⟨pr, 0, none⟩)) := by
  obtain ⟨gl, cl, cv, Av, ds, es, Fd, pt, pr, Fj, FL, pj, nj, cj, Aj, dj, As, ns, cs, dx, h⟩ := h
  exact ⟨pt, pr, h.blk.cell 0 rfl, h.blk.cell 1 rfl, h.blk.cell 2 rfl, h.blk.cell 3 rfl⟩
theorem SitE.ltK (h : SitE K M lo w pw pd pv q n L V J S X odd off) : ∀ g, K g → g < w.heap.size := by
  obtain ⟨gl, cl, cv, Av, ds, es, Fd, pt, pr, Fj, FL, pj, nj, cj, Aj, dj, As, ns, cs, dx, h⟩ := h
  exact h.inK
theorem SitE.lenV (h : SitE K M lo w pw pd pv q n L V J S X odd off) : V.length = L.length := by
  obtain ⟨gl, cl, cv, Av, ds, es, Fd, pt, pr, Fj, FL, pj, nj, cj, Aj, dj, As, ns, cs, dx, h⟩ := h
  exact h.db.lenV
/-- new memory that is kept aside -/
theorem SitE.ext (h : SitE K M lo w pw pd pv q n L V J S X odd off) (hb : Below w.heap.size w w') : SitE (fun g => K g ∨ (w.heap.size ≤ g ∧ g < w'.heap.size)) M lo w' pw pd pv q n L V J S X odd off := by
  obtain ⟨gl, cl, cv, Av, ds, es, Fd, pt, pr, Fj, FL, pj, nj, cj, Aj, dj, As, ns, cs, dx, h⟩ := h
  have hz := hb.size
  refine ⟨gl, cl, cv, Av, ds, es, Fd, pt, pr, Fj, FL, pj, nj, cj, Aj, dj, As, ns, cs, dx, h.blk.below hb h.blk.lt, h.db.below hb, h.hn, h.vd.below hb, ?_, ?_, ?_, h.loP, h.loM⟩
  · intro g hg
    obtain ⟨h1, h2, h3, h4, h5⟩ := h.inD g hg
    exact ⟨h1, by omega, h3, fun hx => hx.elim h4 (fun hx => by omega), h5⟩
  · intro g hg
    obtain ⟨h1, h2, h3, h4⟩ := h.inV g hg
    exact ⟨h1, by omega, h3, fun hx => hx.elim h4 (fun hx => by omega)⟩
  · rintro g (hg | hg)
    · have := h.inK g hg; omega
    · exact hg.2
theorem SitE.below (h : SitE K M lo w pw pd pv q n L V J S X odd off) (hb : Below w.heap.size w w') : SitE K M lo w' pw pd pv q n L V J S X odd off := by
  obtain ⟨gl, cl, cv, Av, ds, es, Fd, pt, pr, Fj, FL, pj, nj, cj, Aj, dj, As, ns, cs, dx, h⟩ := h
  have hz := hb.size
  refine ⟨gl, cl, cv, Av, ds, es, Fd, pt, pr, Fj, FL, pj, nj, cj, Aj, dj, As, ns, cs, dx, h.blk.below hb h.blk.lt, h.db.below hb, h.hn, h.vd.below hb, ?_, ?_, ?_, h.loP, h.loM⟩
  · intro g hg
    obtain ⟨h1, h2, h3, h4, h5⟩ := h.inD g hg
    exact ⟨h1, by omega, h3, h4, h5⟩
  · intro g hg
    obtain ⟨h1, h2, h3, h4⟩ := h.inV g hg
    exact ⟨h1, by omega, h3, h4⟩
  · intro g hg
    have := h.inK g hg; omega
/-- less is kept aside -/
theorem SitE.less {K' : Nat → Prop} (h : SitE K M lo w pw pd pv q n L V J S X odd off) (hk : ∀ g, K' g → K g) : SitE K' M lo w pw pd pv q n L V J S X odd off := by
  obtain ⟨gl, cl, cv, Av, ds, es, Fd, pt, pr, Fj, FL, pj, nj, cj, Aj, dj, As, ns, cs, dx, h⟩ := h
  refine ⟨gl, cl, cv, Av, ds, es, Fd, pt, pr, Fj, FL, pj, nj, cj, Aj, dj, As, ns, cs, dx, h.blk, h.db, h.hn, h.vd, ?_, ?_, fun g hg => h.inK g (hk g hg), h.loP, h.loM⟩
  · intro g hg
    obtain ⟨h1, h2, h3, h4, h5⟩ := h.inD g hg
    exact ⟨h1, h2, h3, fun hx => h4 (hk g hx), h5⟩
  · intro g hg
    obtain ⟨h1, h2, h3, h4⟩ := h.inV g hg
    exact ⟨h1, h2, h3, fun hx => h4 (hk g hx)⟩
theorem free_below (h : Only (FreeK K lo) w w') {N : Nat} {w0 : World} (hb : Below N w0 w) (hN : N ≤ lo) (hw : N ≤ w0.heap.size) : Below N w0 w' :=
  hb.trans (h.below (Nat.le_trans hw hb.size) (fun i hi => Nat.le_trans hN hi.1))
theorem sit_poke (ix sub : Int) (A : Option Addr) (m c : Nat) (b : List UInt8) (w : World) (h : SitE K M lo w pw pd pv q n L V J S X odd off) (hs : SortedE L) (hn : n ≤ 1000) (hm : m = b.length) (hc : m ≤ c) (hl : m ≤ 35184372088832) (hb : Sl w A (b.map bv)) :
    Calls Tryz.prog 12 #[.pointer (some ⟨pd, 0, none⟩), .int .i64 ix, .int .i64 sub, .slice A m c] w fun e w' => e = .returned (.int .u32 (mayC L ix sub b true)) ∧ SitE K M lo w' pw pd pv q n L (putV L V ix sub b true) J S X odd off ∧ Only (FreeK K lo) w w' := by
  obtain ⟨gl, cl, cv, Av, ds, es, Fd, pt, pr, Fj, FL, pj, nj, cj, Aj, dj, As, ns, cs, dx, h⟩ := h
  refine (dict_poke ix sub A m c b w h.db hs hn hm hc hl hb).mono ?_
  rintro e w' ⟨V', es', rfl, rfl, hD, ho⟩
  have hz := ho.size
  refine ⟨rfl, ⟨gl, cl, cv, Av, ds, es', fun g => Fd g ∨ (w.heap.size ≤ g ∧ g < w'.heap.size), pt, pr, Fj, FL, pj, nj, cj, Aj, dj, As, ns, cs, dx, ?_, hD.mono (fun g hlt hg => hg.imp id (fun hg => ⟨hg, hlt⟩)), h.hn, h.vd.only ho (fun g hg => (h.inD g hg).2.2.2.2), ?_, ?_, fun g hg => Nat.lt_of_lt_of_le (h.inK g hg) hz, h.loP, h.loM⟩, ho.mono (fun g _ hg => ⟨(h.inD g hg).1, (h.inD g hg).2.2.2.1⟩)⟩
  · exact (ho.block pw h.blk.lt (fun hx => (h.inD pw hx).2.2.1 rfl)).trans h.blk
  · have hlt := h.blk.lt
    have hlo := h.loP
    rintro g (hg | hg)
    · obtain ⟨h1, h2, h3, h4, h5⟩ := h.inD g hg
      exact ⟨h1, by omega, h3, h4, h5⟩
    · refine ⟨by omega, hg.2, by omega, fun hx => by have := h.inK g hx; omega, fun hx => ?_⟩
      have := (h.inV g hx).2.1
      omega
  · intro g hg
    obtain ⟨h1, h2, h3, h4⟩ := h.inV g hg
    exact ⟨h1, by omega, h3, h4⟩
theorem sit_values (w : World) (h : SitE K M lo w pw pd pv q n L V J S X odd off) (hn : n ≤ 1000) :
    Calls Tryz.prog 13 #[.pointer (some ⟨pd, 0, none⟩)] w (ValuesR (svL L V) w) := by
  obtain ⟨gl, cl, cv, Av, ds, es, Fd, pt, pr, Fj, FL, pj, nj, cj, Aj, dj, As, ns, cs, dx, h⟩ := h
  exact dict_values w h.db hn
theorem sit_keep {J' : JS} {S' : FS} {X' : List SV} {odd' off' : Bool} {gl cl cv : Nat} {Av : Option Addr} {ds es : List (Option Addr × Nat)} {Fd : Nat → Prop} {pt pr : Nat} {Fj FL Fj' FL' : Nat → Prop} {pj nj cj : Nat} {Aj : Option Addr} {dj dj' : List (Option Addr × Nat)} {As As' : Option Addr} {ns cs ns' cs' : Nat} {dx dx' : List (Option Addr × Nat)}
    (h : Sit K M lo w pw pd gl n cl cv Av L V ds es Fd q pt pr Fj FL pv pj nj cj Aj dj As ns cs dx J S X odd off) (hV : VD w' M Fj' FL' pv pj q Aj nj cj dj' As' ns' cs' dx' J' S' X' odd' off') (ho : Only (fun g => Fj g ∨ q.F g ∨ g = pv) w w') (hf : ∀ g, Fj' g ∨ FL' g → Fj g ∨ FL g ∨ (w.heap.size ≤ g ∧ g < w'.heap.size)) :
    SitE K M lo w' pw pd pv q n L V J' S' X' odd' off' ∧ Only (FreeK K lo) w w' := by
  have hz := ho.size
  have hlt := h.blk.lt
  have hlo := h.loP
  have hi : ∀ g, Fj g ∨ q.F g ∨ g = pv → Fj g ∨ q.F g ∨ FL g ∨ g = pv := fun g hg => hg.imp id (fun hg => hg.imp id .inr)
  refine ⟨⟨gl, cl, cv, Av, ds, es, Fd, pt, pr, Fj', FL', pj, nj, cj, Aj, dj', As', ns', cs', dx', ?_, h.db.keep (fun g hg hl => ho.block g hl (fun hx => (h.inD g hg).2.2.2.2 (hi g hx))), h.hn, hV, ?_, ?_, fun g hg => Nat.lt_of_lt_of_le (h.inK g hg) hz, h.loP, h.loM⟩, ho.mono (fun g _ hg => ⟨(h.inV g (hi g hg)).1, (h.inV g (hi g hg)).2.2.2⟩)⟩
  · exact (ho.block pw hlt (fun hx => (h.inV pw (hi pw hx)).2.2.1 rfl)).trans h.blk
  · intro g hg
    obtain ⟨h1, h2, h3, h4, h5⟩ := h.inD g hg
    refine ⟨h1, by omega, h3, h4, ?_⟩
    rintro (hx | hx | hx | hx)
    · rcases hf g (.inl hx) with k | k | k
      · exact h5 (.inl k)
      · exact h5 (.inr (.inr (.inl k)))
      · omega
    · exact h5 (.inr (.inl hx))
    · rcases hf g (.inr hx) with k | k | k
      · exact h5 (.inl k)
      · exact h5 (.inr (.inr (.inl k)))
      · omega
    · exact h5 (.inr (.inr (.inr hx)))
  · intro g hg
    have base : (Fj g ∨ q.F g ∨ FL g ∨ g = pv) ∨ (w.heap.size ≤ g ∧ g < w'.heap.size) := by
      rcases hg with hx | hx | hx | hx
      · rcases hf g (.inl hx) with k | k | k
        · exact .inl (.inl k)
        · exact .inl (.inr (.inr (.inl k)))
        · exact .inr k
      · exact .inl (.inr (.inl hx))
      · rcases hf g (.inr hx) with k | k | k
        · exact .inl (.inl k)
        · exact .inl (.inr (.inr (.inl k)))
        · exact .inr k
      · exact .inl (.inr (.inr (.inr hx)))
    rcases base with k | k
    · obtain ⟨h1, h2, h3, h4⟩ := h.inV g k
      exact ⟨h1, by omega, h3, h4⟩
    · exact ⟨by omega, k.2, by omega, fun hx => by have := h.inK g hx; omega⟩
theorem sit_store (a : Nat → Addr) (gr : Int) (w : World) (h : SitE K M lo w pw pd pv q n L V J S X odd off) (hG : GV w a M) (hrun : RunJ J S) (hops : S.ops + 2000 < 4611686018427387904) (h1 : 1 ≤ gr ∧ gr ≤ 4) (hnd : n ≤ 200) (hVl : ∀ v ∈ V, v.length ≤ 2000) :
    Calls Tryz.prog 14 #[.pointer (some ⟨pv, 0, none⟩), .pointer (some ⟨pd, 0, none⟩), .int .i64 gr] w fun e w' => ∃ R : JS × FS × Int, WrP J S 1 (joinV (dropL X gr) (ofV L V gr)) R ∧ e = .returned (.int .u32 (codeV R.2.2 : Nat)) ∧
      SitE K M lo w' pw pd pv q n L V R.1 R.2.1 (if R.2.2 = 0 then joinV (dropL X gr) (ofV L V gr) else X) (if R.2.2 = 0 then false else odd) (off || decide (R.2.2 = 7)) ∧ Only (FreeK K lo) w w' := by
  obtain ⟨gl, cl, cv, Av, ds, es, Fd, pt, pr, Fj, FL, pj, nj, cj, Aj, dj, As, ns, cs, dx, h⟩ := h
  have hM : M ≤ w.heap.size := by have := h.loM; have := h.loP; have := h.blk.lt; omega
  refine (va_store a gr w h.vd hG hM hrun hops h1 h.db hnd hVl).mono ?_
  rintro e w' ⟨R, dj', Fj', FL', As', ns', cs', dx', hW, rfl, hV, ho, hf⟩
  exact ⟨R, hW, rfl, sit_keep h hV ho hf⟩
theorem sit_restore (a : Nat → Addr) (gr : Int) (w : World) (h : SitE K M lo w pw pd pv q n L V J S X odd off) (hG : GV w a M) (hrun : RunJ J S) (hops : S.ops + 2000 < 4611686018427387904) (h1 : 1 ≤ gr ∧ gr ≤ 4) :
    Calls Tryz.prog 16 #[.pointer (some ⟨pv, 0, none⟩), .int .i64 gr] w fun e w' => ∃ R : JS × FS × Int, WrP J S (if (dropL X gr).length = 0 then 2 else 1) (dropL X gr) R ∧ e = .returned (.int .u32 (codeV R.2.2 : Nat)) ∧
      SitE K M lo w' pw pd pv q n L V R.1 R.2.1 (if R.2.2 = 0 then dropL X gr else X) (if R.2.2 = 0 then false else odd) (off || decide (R.2.2 = 7)) ∧ Only (FreeK K lo) w w' := by
  obtain ⟨gl, cl, cv, Av, ds, es, Fd, pt, pr, Fj, FL, pj, nj, cj, Aj, dj, As, ns, cs, dx, h⟩ := h
  have hM : M ≤ w.heap.size := by have := h.loM; have := h.loP; have := h.blk.lt; omega
  refine (va_restore a gr w h.vd hG hM hrun hops h1).mono ?_
  rintro e w' ⟨R, dj', Fj', FL', As', ns', cs', dx', hW, rfl, hV, ho, hf⟩
  exact ⟨R, hW, rfl, sit_keep h hV ho hf⟩
theorem sit_vvalues (w : World) (h : SitE K M lo w pw pd pv q n L V J S X odd off) : Calls Tryz.prog 17 #[.pointer (some ⟨pv, 0, none⟩)] w (fun e w' => ∃ A' n' c' ds, e = .returned (.slice A' n' c') ∧ OwnV w' w.heap.size A' n' c' (dropL X 0) ds ∧ Below w.heap.size w w') := by
  obtain ⟨gl, cl, cv, Av, ds, es, Fd, pt, pr, Fj, FL, pj, nj, cj, Aj, dj, As, ns, cs, dx, h⟩ := h
  exact va_values w h.vd
theorem sit_odd (w : World) (h : SitE K M lo w pw pd pv q n L V J S X odd off) : Calls Tryz.prog 20 #[.pointer (some ⟨pv, 0, none⟩)] w fun e w' => e = .returned (.bool odd) ∧ w = w' := by
  obtain ⟨gl, cl, cv, Av, ds, es, Fd, pt, pr, Fj, FL, pj, nj, cj, Aj, dj, As, ns, cs, dx, h⟩ := h
  exact va_odd w h.vd
theorem sit_load (w : World) (h : SitE K M lo w pw pd pv q n L V J S X odd off) (hs : SortedE L) (hn : n ≤ 1000) :
    Calls Tryz.prog 15 #[.pointer (some ⟨pv, 0, none⟩), .pointer (some ⟨pd, 0, none⟩)] w fun e w' => e = .returned (.int .i64 (checkL L X)) ∧ SitE K M lo w' pw pd pv q n L (applyV L (L.map Ent.df) X) J S X odd off ∧ Only (FreeK K lo) w w' := by
  obtain ⟨gl, cl, cv, Av, ds, es, Fd, pt, pr, Fj, FL, pj, nj, cj, Aj, dj, As, ns, cs, dx, h⟩ := h
  refine (va_load w h.vd h.db hs hn (fun g hg => ⟨(h.inD g hg).2.1, fun hx => (h.inD g hg).2.2.2.2 (hx.elim (fun k => .inr (.inr (.inl k))) (fun k => .inr (.inr (.inr k))))⟩)).mono ?_
  rintro e w' ⟨V', es', rfl, rfl, hD, ho⟩
  have hz := ho.size
  refine ⟨rfl, ⟨gl, cl, cv, Av, ds, es', fun g => Fd g ∨ (w.heap.size ≤ g ∧ g < w'.heap.size), pt, pr, Fj, FL, pj, nj, cj, Aj, dj, As, ns, cs, dx, ?_, hD.mono (fun g hlt hg => hg.imp id (fun hg => ⟨hg, hlt⟩)), h.hn, h.vd.only ho (fun g hg => (h.inD g hg).2.2.2.2), ?_, ?_, fun g hg => Nat.lt_of_lt_of_le (h.inK g hg) hz, h.loP, h.loM⟩, ho.mono (fun g _ hg => ⟨(h.inD g hg).1, (h.inD g hg).2.2.2.1⟩)⟩
  · exact (ho.block pw h.blk.lt (fun hx => (h.inD pw hx).2.2.1 rfl)).trans h.blk
  · have hlt := h.blk.lt
    have hlo := h.loP
    rintro g (hg | hg)
    · obtain ⟨h1, h2, h3, h4, h5⟩ := h.inD g hg
      exact ⟨h1, by omega, h3, h4, h5⟩
    · refine ⟨by omega, hg.2, by omega, fun hx => by have := h.inK g hx; omega, fun hx => ?_⟩
      have := (h.inV g hx).2.1
      omega
  · intro g hg
    obtain ⟨h1, h2, h3, h4⟩ := h.inV g hg
    exact ⟨h1, by omega, h3, h4⟩
/-- another vault on the same flash -/
theorem sit_open (w : World) (h : SitE K M lo w pw pd pv q n L V J S X odd off) (hs : SortedE L) (hn : n ≤ 1000) (hoff : S.off = false) (h3 : 3 ≤ S.wear.length) :
    Calls Tryz.prog 11 #[.pointer (some ⟨q.p, 0, none⟩), .pointer (some ⟨pd, 0, none⟩)] w fun e w' => ∃ pv', e = .returned (.tuple #[.pointer (some ⟨pv', 0, none⟩), .int .i64 0]) ∧ SitE K M lo w' pw pd pv' q n L V (openJ S) S (recX L (openJ S)).1 (recX L (openJ S)).2 false ∧ Below w.heap.size w w' := by
  obtain ⟨gl, cl, cv, Av, ds, es, Fd, pt, pr, Fj, FL, pj, nj, cj, Aj, dj, As, ns, cs, dx, h⟩ := h
  have hM : M ≤ w.heap.size := by have := h.loM; have := h.loP; have := h.blk.lt; omega
  refine (va_open M q S w h.vd.fd hoff h3 hM (fun g hg => ⟨(h.inV g (.inr (.inl hg))).2.1, by have := (h.inV g (.inr (.inl hg))).1; have := h.loM; omega⟩) h.db hs hn).mono ?_
  rintro e w' ⟨pv', pj', A', n', c', dj', As', ns', cs', dx', rfl, hV, hpv, hb⟩
  have hz := hb.size
  have hlt := h.blk.lt
  have hlo := h.loP
  have hp := hV.blk.lt
  refine ⟨pv', rfl, ⟨gl, cl, cv, Av, ds, es, Fd, pt, pr, _, _, pj', n', c', A', dj', As', ns', cs', dx', h.blk.below hb hlt, h.db.below hb, h.hn, hV, ?_, ?_, fun g hg => Nat.lt_of_lt_of_le (h.inK g hg) hz, h.loP, h.loM⟩, hb⟩
  · intro g hg
    obtain ⟨h1, h2, h3, h4, h5⟩ := h.inD g hg
    refine ⟨h1, by omega, h3, h4, ?_⟩
    rintro (k | k | k | k)
    · omega
    · exact h5 (.inr (.inl k))
    · omega
    · omega
  · intro g hg
    have base : q.F g ∨ (w.heap.size ≤ g ∧ g < w'.heap.size) := by
      rcases hg with k | k | k | k
      · exact .inr ⟨k.1, by omega⟩
      · exact .inl k
      · exact .inr ⟨by omega, k.2⟩
      · exact .inr ⟨by omega, by omega⟩
    rcases base with k | k
    · obtain ⟨h1, h2, h3, h4⟩ := h.inV g (.inr (.inl k))
      exact ⟨h1, by omega, h3, h4⟩
    · exact ⟨by omega, k.2, by omega, fun hx => by have := h.inK g hx; omega⟩
/-- the first vault -/
theorem sit_first {m1 m2 gl cl cv : Nat} {Av : Option Addr} {ds es : List (Option Addr × Nat)} {Fd : Nat → Prop} {pt pr : Nat} (w : World) (h : Beg w lo m1 m2 pw pd gl n cl cv Av L V ds es Fd q S pt pr) (hM : M ≤ lo) (hs : SortedE L) (hn : n ≤ 1000) (hoff : S.off = false) (h3 : 3 ≤ S.wear.length) :
    Calls Tryz.prog 11 #[.pointer (some ⟨q.p, 0, none⟩), .pointer (some ⟨pd, 0, none⟩)] w fun e w' => ∃ pv', e = .returned (.tuple #[.pointer (some ⟨pv', 0, none⟩), .int .i64 0]) ∧ SitE (fun _ => False) M lo w' pw pd pv' q n L V (openJ S) S (recX L (openJ S)).1 (recX L (openJ S)).2 false ∧ Below w.heap.size w w' := by
  have hlt := h.blk.lt
  have hlo := h.lo_pw
  refine (va_open M q S w h.fd hoff h3 (by omega) (fun g hg => ⟨(h.inQ g hg).2.1, by have := (h.inQ g hg).1; omega⟩) h.db hs hn).mono ?_
  rintro e w' ⟨pv', pj', A', n', c', dj', As', ns', cs', dx', rfl, hV, hpv, hb⟩
  have hz := hb.size
  have hp := hV.blk.lt
  refine ⟨pv', rfl, ⟨gl, cl, cv, Av, ds, es, Fd, pt, pr, _, _, pj', n', c', A', dj', As', ns', cs', dx', h.blk.below hb hlt, h.db.below hb, h.hn, hV, ?_, ?_, fun g hg => hg.elim, hlo, hM⟩, hb⟩
  · intro g hg
    obtain ⟨h1, h2, h3, h4⟩ := h.inD g hg
    refine ⟨h1, by omega, h4, fun hx => hx, ?_⟩
    rintro (k | k | k | k)
    · omega
    · exact h3 k
    · omega
    · omega
  · intro g hg
    have base : q.F g ∨ (w.heap.size ≤ g ∧ g < w'.heap.size) := by
      rcases hg with k | k | k | k
      · exact .inr ⟨k.1, by omega⟩
      · exact .inl k
      · exact .inr ⟨by omega, k.2⟩
      · exact .inr ⟨by omega, by omega⟩
    rcases base with k | k
    · obtain ⟨h1, h2, h3⟩ := h.inQ g k
      exact ⟨h1, by omega, h3, fun hx => hx⟩
    · exact ⟨by omega, k.2, by omega, fun hx => hx⟩
/-- the flash alone turns -/
theorem sit_flash {S' : FS} (h : SitE K M lo w pw pd pv q n L V J S X odd off) (hF : FD w' q S') (ho : Only (fun g => g = q.p) w w') : SitE K M lo w' pw pd pv q n L V J S' X odd off ∧ Only (FreeK K lo) w w' := by
  obtain ⟨gl, cl, cv, Av, ds, es, Fd, pt, pr, Fj, FL, pj, nj, cj, Aj, dj, As, ns, cs, dx, h⟩ := h
  have hp : q.F q.p := .inl rfl
  have hi : ∀ g, g = q.p → Fj g ∨ q.F g ∨ FL g ∨ g = pv := fun g hg => by rw [hg]; exact .inr (.inl hp)
  have hz := ho.size
  have v := h.vd
  refine ⟨⟨gl, cl, cv, Av, ds, es, Fd, pt, pr, Fj, FL, pj, nj, cj, Aj, dj, As, ns, cs, dx, (ho.block pw h.blk.lt (fun hx => (h.inV pw (hi pw hx)).2.2.1 rfl)).trans h.blk, h.db.keep (fun g hg hl => ho.block g hl (fun hx => (h.inD g hg).2.2.2.2 (hi g hx))), h.hn,
    ⟨(ho.block pv v.blk.lt (fun hx => (v.fw q.p (.inr hp)).2.2 hx.symm)).trans v.blk, v.jd.only ho (fun g hg hx => v.dq g hg (by rw [hx]; exact hp)), hF, v.row.keep (fun g hg hl => ho.block g hl (fun hx => (v.lw g hg).2.2.2 (.inr (by rw [hx]; exact hp)))), v.mv, fun g hg => ⟨Nat.lt_of_lt_of_le (v.fw g hg).1 hz, (v.fw g hg).2⟩, fun g hg => ⟨Nat.lt_of_lt_of_le (v.lw g hg).1 hz, (v.lw g hg).2⟩, v.dq, v.sz, v.fit⟩, ?_, ?_, fun g hg => Nat.lt_of_lt_of_le (h.inK g hg) hz, h.loP, h.loM⟩, ho.mono (fun g _ hg => ⟨(h.inV g (hi g hg)).1, (h.inV g (hi g hg)).2.2.2⟩)⟩
  · intro g hg
    obtain ⟨h1, h2, h3, h4, h5⟩ := h.inD g hg
    exact ⟨h1, by omega, h3, h4, h5⟩
  · intro g hg
    obtain ⟨h1, h2, h3, h4⟩ := h.inV g hg
    exact ⟨h1, by omega, h3, h4⟩
theorem sit_start (w : World) (h : SitE K M lo w pw pd pv q n L V J S X odd off) : Calls Tryz.prog 29 #[.pointer (some ⟨q.p, 0, none⟩)] w fun e w' => e = .returned (.tuple #[]) ∧ SitE K M lo w' pw pd pv q n L V J { S with off := false } X odd off ∧ Only (FreeK K lo) w w' := by
  have HH := hide h
  obtain ⟨gl, cl, cv, Av, ds, es, Fd, pt, pr, Fj, FL, pj, nj, cj, Aj, dj, As, ns, cs, dx, h⟩ := h
  refine (fl_Start q S w h.vd.fd).mono ?_
  rintro e w' ⟨rfl, hF, ho⟩
  exact ⟨rfl, sit_flash HH.out hF ho⟩
theorem sit_cut (k m : Nat) (w : World) (h : SitE K M lo w pw pd pv q n L V J S X odd off) (hk : k ≤ 4611686018427387904) (hm : U32 m) : Calls Tryz.prog 28 #[.pointer (some ⟨q.p, 0, none⟩), .int .i64 (k : Nat), .int .u32 (m : Nat)] w fun e w' => e = .returned (.int .i64 0) ∧ SitE K M lo w' pw pd pv q n L V J { S with ahead := (k : Nat), mask := m } X odd off ∧ Only (FreeK K lo) w w' := by
  have HH := hide h
  obtain ⟨gl, cl, cv, Av, ds, es, Fd, pt, pr, Fj, FL, pj, nj, cj, Aj, dj, As, ns, cs, dx, h⟩ := h
  refine (fl_Cut q S w k m h.vd.fd hk hm).mono ?_
  rintro e w' ⟨rfl, hF, ho⟩
  exact ⟨rfl, sit_flash HH.out hF ho⟩
end
end
end Go.Proofs.YtehabbnohoomjaaGreatDoor
namespace Go.Proofs.YtehabbnohoomjaaGreatDoor
section
set_option linter.unusedVariables false
set_option linter.unusedSimpArgs false
set_option linter.unnecessarySimpa false
open Go.RowKit
set_option maxRecDepth 20000
set_option maxHeartbeats 8000000

def DataR (n : Nat) (w : World) (e : Ending) (w' : World) : Prop := ∃ A c l, e = .returned (.slice A n c) ∧ n = l.length ∧ OwnB w' w.heap.size A n c l ∧ Below w.heap.size w w'
end
end Go.Proofs.YtehabbnohoomjaaGreatDoor
namespace Go.Proofs.YtehabbnohoomjaaGreatDoor
section
set_option linter.unusedVariables false
set_option linter.unusedSimpArgs false
set_option linter.unnecessarySimpa false
open Go.RowKit
set_option maxRecDepth 20000
set_option maxHeartbeats 2000000

theorem progF_ops (bs : List UInt8) : ∀ (S : FS) (k : Nat), (progF S k bs).1.ops ≤ S.ops + bs.length := by
  induction bs with
  | nil => intro S k; exact Nat.le_refl _
  | cons x bs ih =>
    intro S k
    rw [progF]
    split
    · simp
    · refine Nat.le_trans (ih _ _) ?_
      simp only [List.length_cons]
      omega
theorem eraseF_ops (S : FS) (i : Nat) : (eraseF S i).1.ops ≤ S.ops + 1 := by
  unfold eraseF
  split <;> simp
theorem layJ_ops (J : JS) (S : FS) (i : Nat) (x : LK) (kd : Int) (num : Nat) (d : List UInt8) : (layJ J S i x kd num d).2.1.ops ≤ S.ops + (recB kd num d).length := by
  have h := progF_ops (recB kd num d) S (1024 * i + x.en)
  unfold layJ
  generalize progF S (1024 * i + x.en) (recB kd num d) = r at h
  obtain ⟨S', e⟩ := r
  dsimp only
  split <;> exact h
theorem appJ_ops (J : JS) (S : FS) (kd : Int) (d : List UInt8) : (appJ J S kd d).2.1.ops ≤ S.ops + (recB kd (numJ J + 1) d).length + 1 := by
  unfold appJ
  split
  · simp only []; omega
  split
  · simp only []; omega
  split
  · simp only []; omega
  generalize placeJ J S d.length = r
  obtain ⟨i, er, ok⟩ := r
  dsimp only
  split
  · simp only []; omega
  split
  · have h := eraseF_ops S i
    generalize eraseF S i = r at h
    obtain ⟨S1, e1⟩ := r
    dsimp only at h ⊢
    split
    · refine Nat.le_trans (layJ_ops _ _ _ _ _ _ _) ?_
      omega
    · simp only []; omega
  · refine Nat.le_trans (layJ_ops _ _ _ _ _ _ _) ?_
    omega
theorem recJ_recS (S : FS) : recJ (openJ S) = recS S := by unfold recJ recS lastJ openJ; rfl
end
end Go.Proofs.YtehabbnohoomjaaGreatDoor

/- A look stored whole into the journal's row. -/
import Derived.Test.YtehabbnohoomjaaGreatDoorC20
namespace Go.Proofs.YtehabbnohoomjaaGreatDoor
section
set_option linter.unusedVariables false
set_option linter.unusedSimpArgs false
set_option linter.unnecessarySimpa false
open Go.RowKit
set_option maxRecDepth 20000
set_option maxHeartbeats 2000000

theorem set_app6 {α : Type} (s t : List α) (hs : s.length = 6) (i j : Nat) (h : i = 6 + j) (v : α) : (s ++ t).set i v = s ++ t.set j v := by
  subst h
  rw [List.set_append_right _ _ (by omega), hs, Nat.add_sub_cancel_left]
theorem cells_set6 (x : LK) (d : Option Addr × Nat) : ∀ (L : List LK) (ds : List (Option Addr × Nat)) (k : Nat), ds.length = L.length → k < L.length →
    ((((((cellsG lkF L ds).set (k * 6) (.int .i64 x.k)).set (k * 6 + 1) (.int .u32 (x.m : Nat))).set (k * 6 + 2) (.slice d.1 x.d.length d.2)).set (k * 6 + 3) (.int .i64 (x.cnt : Nat))).set (k * 6 + 4) (.int .i64 (x.en : Nat))).set (k * 6 + 5) (.bool x.cl) = cellsG lkF (L.set k x) (ds.set k d) := by
  intro L
  induction L with
  | nil => intro ds k _ h; simp at h
  | cons y L ih =>
    intro ds k hl hk
    cases ds with
    | nil => simp at hl
    | cons e ds =>
      cases k with
      | zero => rfl
      | succ k =>
        have hs : (lkF y e).length = 6 := rfl
        rw [List.set_cons_succ, List.set_cons_succ, cellsG, cellsG, ← ih ds k (by simpa using hl) (by simpa using hk)]
        rw [set_app6 _ _ hs _ (k * 6) (by omega), set_app6 _ _ hs _ (k * 6 + 1) (by omega), set_app6 _ _ hs _ (k * 6 + 2) (by omega), set_app6 _ _ hs _ (k * 6 + 3) (by omega), set_app6 _ _ hs _ (k * 6 + 4) (by omega), set_app6 _ _ hs _ (k * 6 + 5) (by omega)]
def putLk (w : World) (g k : Nat) (x : LK) (A : Option Addr) (c : Nat) : World :=
  (((((w.setCell ⟨g, k * 6, none⟩ (.int .i64 x.k)).setCell ⟨g, k * 6 + 1, none⟩ (.int .u32 (x.m : Nat))).setCell ⟨g, k * 6 + 2, none⟩ (.slice A x.d.length c)).setCell ⟨g, k * 6 + 3, none⟩ (.int .i64 (x.cnt : Nat))).setCell ⟨g, k * 6 + 4, none⟩ (.int .i64 (x.en : Nat))).setCell ⟨g, k * 6 + 5, none⟩ (.bool x.cl)
theorem putLk_only (w : World) (g k : Nat) (x : LK) (A : Option Addr) (c : Nat) : Only (fun i => i = g) w (putLk w g k x A c) :=
  Only.set (fun i => i = g) (Only.set (fun i => i = g) (Only.set (fun i => i = g) (Only.set (fun i => i = g) (Only.set (fun i => i = g) (Only.set (fun i => i = g) (Only.refl _ _) rfl _) rfl _) rfl _) rfl _) rfl _) rfl _
theorem lk_store {w : World} {F : Nat → Prop} {g n c k : Nat} {L : List LK} {ds : List (Option Addr × Nat)} {x : LK} {A : Option Addr} {c' : Nat} (h : OwnLk w F (some ⟨g, 0, none⟩) n c L ds) (hk : k < n) (hx : OwnB w 0 A x.d.length c' x.d) (hF : FIn F A) :
    OwnLk (putLk w g k x A c') F (some ⟨g, 0, none⟩) n c (L.set k x) (ds.set k (A, c')) := by
  have ho := putLk_only w g k x A c'
  have hkL : k < L.length := by rw [← h.hn]; exact hk
  have hd : ∀ {m c2 : Nat} {A' : Option Addr} {l : List UInt8}, OwnB w 0 A' m c2 l → OwnB (putLk w g k x A c') 0 A' m c2 l := fun hO => ⟨hO.hn, hO.own.keep (fun i _ hlt hA' => ho.block i hlt (fun e => by
    have := own_ne' hO.own h.own (by decide) i hA'
    rw [e] at this
    exact this rfl))⟩
  refine ⟨by rw [List.length_set]; exact h.hn, by simp [h.hd], ?_, h.inF, ?_⟩
  · have h1 := (World.ownsRow.stored (World.ownsRow.stored (World.ownsRow.stored (World.ownsRow.stored (World.ownsRow.stored (World.ownsRow.stored h.own (k * 6) (.int .i64 x.k)).1 (k * 6 + 1) (.int .u32 (x.m : Nat))).1 (k * 6 + 2) (.slice A x.d.length c')).1 (k * 6 + 3) (.int .i64 (x.cnt : Nat))).1 (k * 6 + 4) (.int .i64 (x.en : Nat))).1 (k * 6 + 5) (.bool x.cl)).1
    rw [cells_set6 x (A, c') L ds k h.hd hkL] at h1
    exact h1
  · intro j v d' hv hd'
    rcases Nat.decEq j k with hjk | hjk
    · rw [List.getElem?_set_ne (fun e => hjk e.symm)] at hv hd'
      exact ⟨hd (h.data j v d' hv hd').1, (h.data j v d' hv hd').2⟩
    · subst hjk
      rw [List.getElem?_set_self hkL] at hv
      rw [List.getElem?_set_self (by rw [h.hd]; exact hkL)] at hd'
      injection hv with hv
      injection hd' with hd'
      subst hv
      subst hd'
      exact ⟨hd hx, hF⟩
theorem any_gen {R : World → Prop} {P : Program} {md : Region.Mode} {ops : Array Oper} {Q : Exit → Act → World → Prop} {S : World → Prop} {f : Nat} {listed : Array Bool} {a : Act} {w : World} (h : R w) (k : ∀ W, R W → wpAnyH P md ops Q S f listed a W) : wpAnyH P md ops Q S f listed a w := k w h
theorem six_only (w : World) (g o0 o1 o2 o3 o4 o5 : Nat) (v0 v1 v2 v3 v4 v5 : Value) :
    Only (fun i => i = g) w ((((((w.setCell ⟨g, o0, none⟩ v0).setCell ⟨g, o1, none⟩ v1).setCell ⟨g, o2, none⟩ v2).setCell ⟨g, o3, none⟩ v3).setCell ⟨g, o4, none⟩ v4).setCell ⟨g, o5, none⟩ v5) :=
  Only.set (fun i => i = g) (Only.set (fun i => i = g) (Only.set (fun i => i = g) (Only.set (fun i => i = g) (Only.set (fun i => i = g) (Only.set (fun i => i = g) (Only.refl _ _) rfl _) rfl _) rfl _) rfl _) rfl _) rfl _
theorem blk_six {w : World} {p : Nat} {t : TypeId} {cs : Array Value} (h : Blk w p t cs) {g : Nat} (hne : p ≠ g) (o0 o1 o2 o3 o4 o5 : Nat) (v0 v1 v2 v3 v4 v5 : Value) :
    Blk ((((((w.setCell ⟨g, o0, none⟩ v0).setCell ⟨g, o1, none⟩ v1).setCell ⟨g, o2, none⟩ v2).setCell ⟨g, o3, none⟩ v3).setCell ⟨g, o4, none⟩ v4).setCell ⟨g, o5, none⟩ v5) p t cs := ((six_only w g o0 o1 o2 o3 o4 o5 v0 v1 v2 v3 v4 v5).block p h.lt hne).trans h
/-- the journal, where another block of a look is stored into -/
theorem JD.apart {w w' : World} {F : Nat → Prop} {p pf g0 n c gx : Nat} {J : JS} {ds : List (Option Addr × Nat)} {cs : Array Value} (h : JD w F p pf (some ⟨g0, 0, none⟩) n c J ds) (hB : Blk w gx 131 cs) (hg : gx ≠ g0) (ho : Only (fun g => g = gx) w w') : JD w' F p pf (some ⟨g0, 0, none⟩) n c J ds := by
  have hp : p ≠ gx := by
    intro e
    have h1 := h.blk
    unfold Blk at h1 hB
    rw [e, hB] at h1
    injection h1 with h1
    injection h1 with _ h1
    exact absurd h1 (by decide)
  have hd : ∀ {m c' : Nat} {A' : Option Addr} {l : List UInt8}, OwnB w 0 A' m c' l → OwnB w' 0 A' m c' l := fun hO => ⟨hO.hn, hO.own.keep (fun g _ hlt hA' => ho.block g hlt (fun e => blk_own_ne hB hO.own (by decide) (by rw [hA', e]; rfl)))⟩
  refine ⟨(ho.block p h.blk.lt hp).trans h.blk, h.inF, ⟨h.lks.hn, h.lks.hd, h.lks.own.keep (fun g _ hlt hA' => ho.block g hlt (fun e => hg (by injection hA' with hA'; injection hA' with hA'; rw [← e, ← hA']))), h.lks.inF, fun j v d e1 e2 => ⟨hd (h.lks.data j v d e1 e2).1, (h.lks.data j v d e1 e2).2⟩⟩, h.fit, h.n8, h.now, h.at_⟩
/-- the journal behind the store of a look -/
theorem JD.storeLk {w : World} {F : Nat → Prop} {p pf g n c k : Nat} {J : JS} {ds : List (Option Addr × Nat)} {x : LK} {A : Option Addr} {c' : Nat} (h : JD w F p pf (some ⟨g, 0, none⟩) n c J ds) (hk : k < n) (hx : OwnB w 0 A x.d.length c' x.d) (hF : FIn F A) (hf : FitK x) :
    JD (putLk w g k x A c') F p pf (some ⟨g, 0, none⟩) n c ⟨J.looks.set k x, J.now, J.has, J.dead⟩ (ds.set k (A, c')) := by
  refine ⟨?_, h.inF, lk_store h.lks hk hx hF, ?_, h.n8, h.now, h.at_⟩
  · have hne : p ≠ g := fun e => blk_own_ne h.blk h.lks.own (by decide) (by rw [← e]; rfl)
    exact ((putLk_only w g k x A c').block p h.blk.lt hne).trans h.blk
  · intro y hy
    rcases List.mem_or_eq_of_mem_set hy with hy | rfl
    · exact h.fit y hy
    · exact hf
end
end Go.Proofs.YtehabbnohoomjaaGreatDoor

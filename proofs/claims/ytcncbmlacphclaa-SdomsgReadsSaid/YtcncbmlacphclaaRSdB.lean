/- The reference of sdomsg: what stands while it lays a message down; later. -/
import Derived.Test.YtcncbmlacphclaaRSdA
import Derived.Laws.CopyRow
import Derived.Laws.IdiomCopy
import Derived.Deep.RegionHeld3
namespace Go.Proofs.Ytcncbmlacphclaa
set_option linter.unusedVariables false
set_option linter.unusedSimpArgs false
set_option linter.unnecessarySimpa false
open Go.RowKit
set_option maxRecDepth 100000
set_option maxHeartbeats 4000000

/-- the reference's message and its eight bytes -/
structure Rt (w W : World) (H B g : Nat) (l : List UInt8) (cs : Array Value) : Prop where
  m : Blk W H 43 cs
  b : Ow8 W B g 8 l
  hg : H ≠ g
  gr : w.grownBy W (some g)
  hl : l.length = 8
section
variable {w W W' : World} {H B g : Nat} {l : List UInt8} {cs : Array Value}
theorem Rt.drew (h : Rt w W H B g l cs) : Rt w W.drew H B g l cs := ⟨h.m, h.b.drew, h.hg, h.gr.trans (grownBy_drew0 _ _), h.hl⟩
theorem Rt.step {l' : List UInt8} (h : Rt w W H B g l cs) (hb : Ow8 W' B g 8 l') (hl : l'.length = 8) (hg : W.grownBy W' (some g)) : Rt w W' H B g l' cs :=
  ⟨h.m.grown hg (by intro e; injection e with e; exact h.hg e), hb, h.hg, h.gr.trans hg, hl⟩
theorem Rt.byte (h : Rt w W H B g l cs) (i : Nat) (c : UInt8) : Rt w (W.setCell ⟨g, i, none⟩ (bv c)) H B g (l.set i c) cs :=
  h.step (h.b.set8 i c) (by simp [h.hl]) (grown_set (World.grownBy.refl _ _) (.inl rfl) _ _)
def RtR (w : World) (H B g : Nat) (l : List UInt8) (cs : Array Value) (v : Value) (e : Ending) (w' : World) : Prop := e = .returned v ∧ Rt w w' H B g l cs
theorem rt_put (at_ wd n : Nat) (h : Rt w W H B g l cs) (hx : n ≤ 4294967295) (hw : at_ + wd ≤ 8) :
    Calls Try.prog 86 #[.slice (some ⟨g, 0, none⟩) 8 8, .int .i64 (at_ : Nat), .int .i64 (wd : Nat), .int .i64 (n : Nat)] W (RtR w H B g (putL l at_ wd n) cs (.tuple #[])) :=
  (rsd_put at_ wd n B g 8 l W hx hw h.b).mono fun _ _ ⟨he, hB, hg⟩ => ⟨he, h.step hB (by rw [putL_len, h.hl]) hg⟩
theorem rt_copy (A : Option Addr) (n c o m : Nat) (d : List UInt8) (h : Rt w W H B g l cs) (hn : n = d.length) (hom : o + m = 8) (hnm : n ≤ m) (hs : Sl W A (d.map bv)) :
    ∃ W', (Builtin.copy_ #[22, 22] 3 #[.slice (some ⟨g, o, none⟩) m m, .slice A n c]).run Try.prog W = .ok (goInt n) W' ∧ Rt w W' H B g (cpL l o d) cs ∧ W.grownBy W' (some g) := by
  by_cases h0 : n = 0
  · have hd : d = [] := List.eq_nil_of_length_eq_zero (by omega)
    subst h0 hd
    refine ⟨W, run_copy_none W _ _ _ _ _ _ _ _ _ _ Try.underlying22 sizeU8 (by simp), ?_, World.grownBy.refl _ _⟩
    have : cpL l o [] = l := by simp [cpL]
    rw [this]
    exact h
  · obtain ⟨ad, rfl, _⟩ := hs.byte (j := 0) (by omega)
    rcases h.b.own.2 with ⟨hv, _⟩ | ⟨g', cap, cur, hv, hb, hgg, hle, hcm, hsz, ht⟩
    · injection hv with hv; cases hv
    injection hv with hv _ hcap
    injection hv with hv
    injection hv with hv
    subst hv
    subst hcap
    have hcur : cur = (l.map bv).toArray := by
      have h1 : cur.toList.length = 8 := by simpa using hsz
      have h2 : cur.toList = l.map bv := by rw [← ht]; exact (List.take_of_length_le (by omega)).symm
      rw [← h2]
    subst hcur
    have hr := run_copy_row (P := Try.prog) W 22 22 3 5 g o m m ad n c (l.map bv).toArray _ (d.map bv) Try.underlying22 sizeU8 hgg
      (by simp only [List.length_map]; show d.length = min n m; omega) (fun j v hv => by obtain ⟨ad', e, hc⟩ := hs j v hv; injection e with e; subst e; exact hc) (by have := h.hl; simp; omega) (bv_one _)
    have hl : (l.map bv).toArray.toList.take o ++ d.map bv ++ (l.map bv).toArray.toList.drop (o + (d.map bv).length) = (cpL l o d).map bv := by
      simp [cpL]
    rw [hl] at hr
    have hg : W.grownBy (W.setRow g ((cpL l o d).map bv).toArray) (some g) := ⟨rfl, rfl, rfl, by simp, fun i _ hne => setRow_other W g i _ (by intro e; subst e; exact hne rfl)⟩
    have hcl : (cpL l o d).length = 8 := by rw [cp_len _ _ _ (by have := h.hl; omega), h.hl]
    refine ⟨_, by simpa [hn] using hr, h.step ⟨by omega, by simp [hcl], .inr ⟨g, 8, _, rfl, hb, setRow_heap W g _ _ _ _ hgg, by omega, hcm, by simp [hcl], ?_⟩⟩ hcl hg, hg⟩
    simp only [List.toList_toArray]
    exact List.take_of_length_le (by simp [hcl])
end
end Go.Proofs.Ytcncbmlacphclaa

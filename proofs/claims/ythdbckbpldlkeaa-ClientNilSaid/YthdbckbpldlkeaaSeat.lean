/- What every walk of this seat uses: bytes in rows of the call's own. -/
import Derived.Test.YthdbckbpldlkeaaProg
import Derived.Test.YthdbckbpldlkeaaLaws
namespace Go.Proofs.Ythdbckbpldlkeaa
set_option linter.unusedVariables false
set_option linter.unusedSimpArgs false
set_option linter.unnecessarySimpa false
open Go.RowKit

def TrueB (w : World) (e : Ending) (w' : World) : Prop := e = .returned (.bool true) ∧ Below w.heap.size w w'
theorem infoU8 : (Try.prog.info? 5).map (fun i => (i.zero, i.size, i.bytes)) = some (some (.int .u8 0), 1, 1) := by kernel_rfl
theorem sizeU8 : (Try.prog.info? 5).map (·.size) = some 1 := by kernel_rfl
/-- the slice (A, n, c) lies in memory of the call's own, from block B on, and holds the bytes l -/
structure OwnB (w : World) (B : Nat) (A : Option Addr) (n c : Nat) (l : List UInt8) : Prop where
  hn : n = l.length
  own : Own w B 5 1 A n c (l.map bv)
section
variable {w w' : World} {B n c : Nat} {A : Option Addr} {l : List UInt8}
theorem OwnB.nil (w : World) (B : Nat) : OwnB w B none 0 0 [] := ⟨rfl, Own.nil _ _ _ _⟩
theorem OwnB.sl (h : OwnB w B A n c l) : Sl w A (l.map bv) := h.own.sl
theorem OwnB.below (h : OwnB w B A n c l) (hb : Below w.heap.size w w') : OwnB w' B A n c l := ⟨h.hn, h.own.below hb⟩
theorem OwnB.alloc (h : OwnB w B A n c l) (o : Obj) : OwnB (w.alloc o) B A n c l := ⟨h.hn, h.own.alloc o⟩
theorem OwnB.drew (h : OwnB w B A n c l) : OwnB w.drew B A n c l := ⟨h.hn, h.own.drew⟩
theorem OwnB.mono {B' : Nat} (h : OwnB w B A n c l) (hB : B' ≤ B) : OwnB w B' A n c l := ⟨h.hn, h.own.mono hB⟩
theorem OwnB.set_ (h : OwnB w B A n c l) {p : Addr} (hp : p.block < B) (u : Value) : OwnB (w.setCell p u) B A n c l := ⟨h.hn, h.own.set_ hp u⟩
theorem OwnB.le (h : OwnB w B A n c l) : n ≤ c := h.own.le
end
section
variable {ops : Array Oper} {rest : List Oper} {o : Oper} {a : Act} {Q : Exit → Act → World → Prop}
theorem app_b (w : World) (hgd : o.guard = none) (s x : Operand) (ho : o.op = .call { callee := .builtin .append, args := #[s, x], argTypes := #[32, 32] })
    (B : Nat) (A : Option Addr) (n c : Nat) (l : List UInt8) (hs : a.eval s = .slice A n c) (hown : OwnB w B A n c l)
    (A2 : Option Addr) (m c2 : Nat) (l2 : List UInt8) (hx : a.eval x = .slice A2 m c2) (hm : m = l2.length) (hr : Sl w A2 (l2.map bv)) (hb : n + m ≤ 140737488355328) (hB : B ≤ w.heap.size)
    (N : Nat) (hN : n + m = N)
    (h : ∀ A' c' w', OwnB w' B A' N c' (l ++ l2) → w.grownBy w' (Value.ownBlock (.slice A n c)) → (A' = A ∨ A' = some ⟨w.heap.size, 0, none⟩) → Below B w w' →
      wpList Try.prog ops Q rest (a.put o.dst (.slice A' N c')) w') : wpList Try.prog ops Q (o :: rest) a w := by
  obtain ⟨i0, hi0, hz0, hz1, hz2⟩ := info_parts infoU8
  refine wpList_app w hgd s x _ ho B 5 i0 _ 1 1 Try.underlying32 hi0 hz0 hz1 hz2 rfl (by omega) A n c _ hs hown.own A2 m c2 (l2.map bv) hx (by simp [hm]) hr (bv_one _) (by unfold maxLen; omega) (by omega) hB N hN ((l ++ l2).map bv) (by simp) ?_
  intro A' c' w' h1 h2 h3 h4
  exact h A' c' w' ⟨by rw [← hN, hown.hn, hm]; simp, h1⟩ h2 h3 h4
theorem mk_b (w : World) (hgd : o.guard = none) (l cc : Operand) (ho : o.op = Op.makeSlice 32 l cc)
    (kl kc : IntKind) (L C : Int) (n c : Nat) (hl : a.eval l = .int kl L) (hc : a.eval cc = .int kc C) (hL : L = (n : Int)) (hC : C = (c : Int)) (hnc : n ≤ c)
    (hb : c ≤ 281474976710656) (H : Nat) (hH : w.heap.size = H)
    (h : ∀ w', OwnB w' H (some ⟨H, 0, none⟩) n c (List.replicate n 0) → H < w'.heap.size → Below H w w' →
      wpList Try.prog ops Q rest (a.put o.dst (.slice (some ⟨H, 0, none⟩) n c)) w') : wpList Try.prog ops Q (o :: rest) a w := by
  subst hH
  obtain ⟨i0, hi0, hz0, hz1, hz2⟩ := info_parts infoU8
  refine wpList_mk w hgd l cc _ ho 5 i0 _ 1 Try.underlying32 hi0 hz0 hz1 hz2 rfl kl kc L C n c hl hc hL hC hnc (by omega) (by unfold maxLen; omega) w.heap.size (Nat.le_refl _) ?_
  intro w' h1 h2 h3
  have hlt : w.heap.size < w'.heap.size := by
    rcases h1.2 with ⟨hv, _⟩ | ⟨g, cap, cur, hv, _, hg, _⟩
    · injection hv with hv; cases hv
    · injection hv with hv
      injection hv with hv
      injection hv with hv
      rw [hv]
      exact (Array.getElem?_eq_some_iff.1 hg).1
  exact h w' ⟨by simp, by simpa [bv] using h1⟩ hlt h3
theorem cpy_b (w : World) (hgd : o.guard = none) (d s : Operand)
    (ho : o.op = .call { callee := .builtin .copy, args := #[d, s], argTypes := #[32, 32] })
    (B : Nat) (A : Option Addr) (n c : Nat) {l : List UInt8} (hd : a.eval d = .slice A n c) (hown : OwnB w B A n c l)
    (A2 : Option Addr) (m c2 : Nat) (l2 : List UInt8) (hs : a.eval s = .slice A2 m c2) (hm : m = l2.length) (hr : Sl w A2 (l2.map bv)) (hB : B ≤ w.heap.size)
    (l3 : List UInt8) (hl3 : l2.take n ++ l.drop m = l3)
    (h : ∀ w', OwnB w' B A n c l3 → w.grownBy w' (Value.ownBlock (.slice A n c)) → Below B w w' → wpList Try.prog ops Q rest (a.put o.dst (goInt (Nat.min m n))) w') : wpList Try.prog ops Q (o :: rest) a w := by
  refine wpList_cpy w hgd d s _ _ ho 5 Try.underlying32 sizeU8 B _ A n c _ hd hown.own A2 m c2 _ hs (by simp [hm]) hr (bv_one _) hB ?_
  intro w' h1 h2 h3
  refine h w' ⟨?_, ?_⟩ h2 h3
  · have := hown.hn
    rw [← hl3]
    simp
    omega
  · rw [← hl3]
    simpa using h1
end
/-- '[]byte' to 'string' -/
theorem str_b {w : World} {A : Option Addr} {n : Nat} (c : Nat) {l : List UInt8} (hn : n = l.length) (h : Sl w A (l.map bv)) :
    (convert 32 9 (.slice A n c)).run Try.prog w = .ok (.string ⟨l.toArray⟩) w :=
  run_str Try.underlying32 Try.underlying5 Try.underlying9 c hn h
/-- 'b[k:]' and 'b[k:m]' of a []byte -/
theorem cut_b (A : Option Addr) (n c k : Nat) (kk : Int) (kd : IntKind) (hk : kk = (k : Int)) (hn : k ≤ n) (hc : n ≤ c) (w : World) :
    (Instr.slice 32 (.slice A n c) (some (.int kd kk)) none none).run Try.prog w = .ok (.slice (cutA A c k 1) (n - k) (c - k)) w := by
  obtain ⟨i0, hi0, hz0, hz1, hz2⟩ := info_parts infoU8
  exact run_cut Try.underlying32 hi0 hz1 A n c k kk kd hk hn hc w
theorem cut2_b (A : Option Addr) (n c k m : Nat) (kk mm : Int) (kd kd' : IntKind) (hk : kk = (k : Int)) (hm : mm = (m : Int)) (hn : k ≤ m) (hc : m ≤ c) (w : World) :
    (Instr.slice 32 (.slice A n c) (some (.int kd kk)) (some (.int kd' mm)) none).run Try.prog w = .ok (.slice (cutA A c k 1) (m - k) (c - k)) w := by
  obtain ⟨i0, hi0, hz0, hz1, hz2⟩ := info_parts infoU8
  exact run_cut2 Try.underlying32 hi0 hz1 A n c k m kk mm kd kd' hk hm hn hc w
end Go.Proofs.Ythdbckbpldlkeaa

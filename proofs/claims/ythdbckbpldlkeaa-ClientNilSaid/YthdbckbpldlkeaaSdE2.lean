/- Package sdomsg: how Build's blocks stand; its closures' contracts over them. -/
import Derived.Test.YthdbckbpldlkeaaSdE
import Derived.Laws.CopyRow
import Derived.Laws.IdiomCopy
namespace Go.Proofs.Ythdbckbpldlkeaa
set_option linter.unusedVariables false
set_option linter.unusedSimpArgs false
set_option linter.unnecessarySimpa false
open Go.RowKit
set_option maxRecDepth 100000
set_option maxHeartbeats 2000000

/-- Build's blocks: the message, the first byte, the eight bytes -/
structure St (w W : World) (gb x : Nat) (l : List UInt8) (cs : Array Value) : Prop where
  m : Blk W w.heap.size 63 cs
  f : Blk W (w.heap.size + 1) 5 #[.int .u8 (x : Nat)]
  b : Bl8 W gb l
  hb : w.heap.size + 1 < gb
  be : Below w.heap.size w W
  hl : l.length = 8
  hx : x < 256
section
variable {w W W' : World} {gb x : Nat} {l : List UInt8} {cs : Array Value}
theorem St.drew (h : St w W gb x l cs) : St w W.drew gb x l cs := ⟨h.m, h.f, h.b, h.hb, h.be.drew, h.hl, h.hx⟩
theorem St.put {l' : List UInt8} (h : St w W gb x l cs) (hB : Bl8 W' gb l') (hl : l'.length = 8) (hg : W.grownBy W' (some gb)) : St w W' gb x l' cs :=
  ⟨h.m.grown hg (by intro e; injection e with e; have := h.hb; omega), h.f.grown hg (by intro e; injection e with e; have := h.hb; omega), hB, h.hb, below_of_grown h.be hg (by have := h.hb; omega) h.be.size, hl, h.hx⟩
theorem St.bit {x' : Nat} (h : St w W gb x l cs) (hf : Blk W' (w.heap.size + 1) 5 #[.int .u8 (x' : Nat)]) (hx : x' < 256) (hg : W.grownBy W' (some (w.heap.size + 1))) : St w W' gb x' l cs :=
  ⟨h.m.grown hg (by intro e; injection e with e; omega), hf, Blk.grown h.b hg (by intro e; injection e with e; have := h.hb; omega), h.hb, below_of_grown h.be hg (by omega) h.be.size, h.hl, hx⟩
theorem St.fst {x' : Nat} (h : St w W gb x l cs) (hx : x' < 256) : St w (W.setCell ⟨w.heap.size + 1, 0, none⟩ (.int .u8 (x' : Nat))) gb x' l cs :=
  h.bit (by simpa using h.f.set_ 0 (.int .u8 (x' : Nat))) hx (grown_set (World.grownBy.refl _ _) (.inl rfl) _ _)
theorem St.byte (h : St w W gb x l cs) (i : Nat) (c : UInt8) : St w (W.setCell ⟨gb, i, none⟩ (bv c)) gb x (l.set i c) cs :=
  h.put (h.b.set8 i c) (by simp [h.hl]) (grown_set (World.grownBy.refl _ _) (.inl rfl) _ _)
theorem orB_lt {b : Bool} {x y : Nat} (hx : x < 256) (hy : y < 256) : orB b x y < 256 := by
  unfold orB
  split
  · exact Nat.or_lt_two_pow (n := 8) hx hy
  · exact hx
def StR (w : World) (gb x : Nat) (l : List UInt8) (cs : Array Value) (e : Ending) (w' : World) : Prop := e = .returned (.tuple #[]) ∧ St w w' gb x l cs
theorem st_put (at_ wd n : Nat) (h : St w W gb x l cs) (hx : U64 n) (hw : at_ + wd ≤ 8) :
    Calls Try.prog 74 #[.int .i64 (at_ : Nat), .int .i64 (wd : Nat), .int .u64 (n : Nat), .pointer (some ⟨gb, 0, none⟩)] W (StR w gb x (putL l at_ wd n) cs) :=
  (sd_put at_ wd n gb l W h.hl hx hw h.b).mono fun _ _ ⟨he, hB, hg⟩ => ⟨he, h.put hB (by rw [putL_len, h.hl]) hg⟩
theorem st_bit (b : Bool) (y : Nat) (h : St w W gb x l cs) (hy : y < 256) :
    Calls Try.prog 75 #[.bool b, .int .u8 (y : Nat), .pointer (some ⟨w.heap.size + 1, 0, none⟩)] W (StR w gb (orB b x y) l cs) :=
  (sd_bit b x y (w.heap.size + 1) W h.hx hy h.f).mono fun _ _ ⟨he, hB, hg⟩ => ⟨he, h.bit hB (orB_lt h.hx hy) hg⟩
/-- bytes copied over the eight bytes, from a place on -/
theorem st_copy (A : Option Addr) (n c o m : Nat) (d : List UInt8) (h : St w W gb x l cs) (hn : n = d.length) (hom : o + m = 8) (hnm : n ≤ m) (hs : Sl W A (d.map bv)) :
    ∃ W', (Builtin.copy_ #[32, 32] 3 #[.slice (some ⟨gb, o, none⟩) m m, .slice A n c]).run Try.prog W = .ok (goInt n) W' ∧ St w W' gb x (cpL l o d) cs ∧ W.grownBy W' (some gb) := by
  by_cases h0 : n = 0
  · have hd : d = [] := List.eq_nil_of_length_eq_zero (by omega)
    subst h0 hd
    refine ⟨W, run_copy_none W _ _ _ _ _ _ _ _ _ _ Try.underlying32 sizeU8 (by simp), ?_, World.grownBy.refl _ _⟩
    have : cpL l o [] = l := by simp [cpL]
    rw [this]
    exact h
  · obtain ⟨ad, rfl, _⟩ := hs.byte (j := 0) (by omega)
    have hB : W.heap[gb]? = some (.cells (l.map bv).toArray 113 (0, 0)) := h.b
    have hr := run_copy_row (P := Try.prog) W 32 32 3 5 gb o m m ad n c (l.map bv).toArray 113 (d.map bv) Try.underlying32 sizeU8 hB
      (by simp only [List.length_map]; show d.length = min n m; omega) (fun j v hv => by obtain ⟨ad', e, hc⟩ := hs j v hv; injection e with e; subst e; exact hc) (by have := h.hl; simp; omega) (bv_one _)
    have hl : (l.map bv).toArray.toList.take o ++ d.map bv ++ (l.map bv).toArray.toList.drop (o + (d.map bv).length) = (cpL l o d).map bv := by
      simp [cpL]
    rw [hl] at hr
    have hg : W.grownBy (W.setRow gb ((cpL l o d).map bv).toArray) (some gb) := ⟨rfl, rfl, rfl, by simp, fun i _ hne => setRow_other W gb i _ (by intro e; subst e; exact hne rfl)⟩
    refine ⟨_, by simpa [hn] using hr, h.put (setRow_heap W gb _ _ _ _ hB) ?_ hg, hg⟩
    rw [cp_len _ _ _ (by have := h.hl; omega), h.hl]
end
end Go.Proofs.Ythdbckbpldlkeaa

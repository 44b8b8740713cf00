/- Dictionaries in memory: entries and values, in rows of the call's own. -/
import Derived.Test.YtehabbnohoomjaaGreatDoorNv04
import Derived.Test.YtehabbnohoomjaaGreatDoorNv32
import Derived.Test.YtehabbnohoomjaaGreatDoorNv03
namespace Go.Proofs.YtehabbnohoomjaaGreatDoor
section
set_option linter.unusedVariables false
set_option linter.unusedSimpArgs false
set_option linter.unnecessarySimpa false
open Go.RowKit
set_option maxRecDepth 20000
set_option maxHeartbeats 1000000

def entF (E : Ent) (d : Option Addr × Nat) : List Value := (entV E d.1 E.df.length d.2).toList
def valF (v : List UInt8) (d : Option Addr × Nat) : List Value := [.slice d.1 v.length d.2]
theorem entF_len (E : Ent) (d : Option Addr × Nat) : (entF E d).length = 11 := rfl
theorem valF_len (v : List UInt8) (d : Option Addr × Nat) : (valF v d).length = 1 := rfl
theorem entF_one (E : Ent) (d : Option Addr × Nat) : ∀ u ∈ entF E d, u.oneCell' = true := by
  intro u hu
  simp only [entF, entV, List.mem_cons, List.not_mem_nil, or_false] at hu
  rcases hu with rfl | rfl | rfl | rfl | rfl | rfl | rfl | rfl | rfl | rfl | rfl <;> rfl
theorem valF_one (v : List UInt8) (d : Option Addr × Nat) : ∀ u ∈ valF v d, u.oneCell' = true := by
  intro u hu
  simp only [valF, List.mem_cons, List.not_mem_nil, or_false] at hu
  subst hu
  rfl
theorem infoE : (Tryz.prog.info? 55).map (fun i => (i.zero, i.size, i.bytes)) = some (some (.agg #[.int .i64 0, .int .i64 0, .string ⟨#[]⟩, .int .i64 0, .int .i64 0, .bool false, .bool false, .int .i64 0, .int .i64 0, .int .i64 0, .slice none 0 0]), 11, 104) := by kernel_rfl
theorem infoS : (Tryz.prog.info? 23).map (fun i => (i.zero, i.size, i.bytes)) = some (some (.slice none 0 0), 1, 24) := by kernel_rfl
def fitE (E : Ent) : Prop := E.df.length ≤ 35184372088832 ∧ E.nm.size ≤ 9223372036854775807
def fitB (v : List UInt8) : Prop := v.length ≤ 35184372088832
/-- a row of entries, of values -/
abbrev OwnE (w : World) (F : Nat → Prop) (A : Option Addr) (n c : Nat) (L : List Ent) (ds : List (Option Addr × Nat)) : Prop := OwnF entF 11 55 Ent.df w F A n c L ds
abbrev OwnS (w : World) (F : Nat → Prop) (A : Option Addr) (n c : Nat) (V : List (List UInt8)) (es : List (Option Addr × Nat)) : Prop := OwnF valF 1 23 (fun v => v) w F A n c V es
/-- a dictionary at block p (its struct's type: T), in blocks of F -/
structure DB (T : TypeId) (w : World) (F : Nat → Prop) (p : Nat) (Al : Option Addr) (n cl : Nat) (Av : Option Addr) (cv : Nat) (L : List Ent) (V : List (List UInt8)) (ds es : List (Option Addr × Nat)) : Prop where
  blk : Blk w p T #[.slice Al n cl, .slice Av n cv]
  inF : F p
  ents : OwnE w F Al n cl L ds
  vals : OwnS w F Av n cv V es
  fe : ∀ E ∈ L, fitE E
  fv : ∀ v ∈ V, fitB v
section
variable {T : TypeId} {w w' : World} {F G : Nat → Prop} {p n cl cv : Nat} {Al Av : Option Addr} {L : List Ent} {V : List (List UInt8)} {ds es : List (Option Addr × Nat)}
theorem DB.keep (h : DB T w F p Al n cl Av cv L V ds es) (hk : ∀ g, F g → g < w.heap.size → w'.heap[g]? = w.heap[g]?) : DB T w' F p Al n cl Av cv L V ds es :=
  ⟨(hk p h.inF h.blk.lt).trans h.blk, h.inF, h.ents.keep hk, h.vals.keep hk, h.fe, h.fv⟩
theorem DB.below (h : DB T w F p Al n cl Av cv L V ds es) (hb : Below w.heap.size w w') : DB T w' F p Al n cl Av cv L V ds es := h.keep fun g _ hlt => hb.block g hlt
theorem DB.mono (h : DB T w F p Al n cl Av cv L V ds es) (hG : ∀ g, g < w.heap.size → F g → G g) : DB T w G p Al n cl Av cv L V ds es :=
  ⟨h.blk, hG p h.blk.lt h.inF, h.ents.mono hG, h.vals.mono hG, h.fe, h.fv⟩
theorem DB.lenV (h : DB T w F p Al n cl Av cv L V ds es) : V.length = L.length := by rw [← h.vals.hn, ← h.ents.hn]
/-- entry k's cells -/
theorem DB.ent (h : DB T w F p Al n cl Av cv L V ds es) {k : Nat} {E : Ent} (hE : L[k]? = some E) : ∃ g d, Al = some ⟨g, 0, none⟩ ∧ g < w.heap.size ∧ ds[k]? = some d ∧ OwnB w 0 d.1 E.df.length d.2 E.df ∧ fitE E ∧
    w.cell? ⟨g, k * 11, none⟩ = some (.int .i64 E.ix) ∧ w.cell? ⟨g, k * 11 + 1, none⟩ = some (.int .i64 E.sub) ∧ w.cell? ⟨g, k * 11 + 2, none⟩ = some (.string E.nm) ∧ w.cell? ⟨g, k * 11 + 3, none⟩ = some (.int .i64 E.ty) ∧
    w.cell? ⟨g, k * 11 + 4, none⟩ = some (.int .i64 E.acc) ∧ w.cell? ⟨g, k * 11 + 5, none⟩ = some (.bool E.mp) ∧ w.cell? ⟨g, k * 11 + 6, none⟩ = some (.bool E.st) ∧ w.cell? ⟨g, k * 11 + 7, none⟩ = some (.int .i64 E.mx) ∧
    w.cell? ⟨g, k * 11 + 8, none⟩ = some (.int .i64 E.lo) ∧ w.cell? ⟨g, k * 11 + 9, none⟩ = some (.int .i64 E.hi) ∧ w.cell? ⟨g, k * 11 + 10, none⟩ = some (.slice d.1 E.df.length d.2) := by
  obtain ⟨d, hd, hO, _⟩ := h.ents.elem hE
  obtain ⟨g, hA, hlt, hc⟩ := h.ents.cells entF_len hE hd (by omega)
  exact ⟨g, d, hA, hlt, hd, hO, h.fe E (List.mem_of_getElem? hE), hc 0 _ rfl, hc 1 _ rfl, hc 2 _ rfl, hc 3 _ rfl, hc 4 _ rfl, hc 5 _ rfl, hc 6 _ rfl, hc 7 _ rfl, hc 8 _ rfl, hc 9 _ rfl, hc 10 _ rfl⟩
/-- value k's cell -/
theorem DB.val (h : DB T w F p Al n cl Av cv L V ds es) {k : Nat} {v : List UInt8} (hv : V[k]? = some v) : ∃ g d, Av = some ⟨g, 0, none⟩ ∧ g < w.heap.size ∧ es[k]? = some d ∧ OwnB w 0 d.1 v.length d.2 v ∧ fitB v ∧
    w.cell? ⟨g, k, none⟩ = some (.slice d.1 v.length d.2) ∧ w.frozen? ⟨g, k, none⟩ = false ∧ F g := by
  obtain ⟨d, hd, hO, _⟩ := h.vals.elem hv
  obtain ⟨g, hA, hlt, hc⟩ := h.vals.cells valF_len hv hd (by omega)
  have hk : k < n := by rw [h.vals.hn]; exact (List.getElem?_eq_some_iff.1 hv).1
  obtain ⟨g', u, hA', _, _, _, _, hf⟩ := h.vals.own.cell hk
  rw [hA] at hA'
  injection hA' with hA'
  injection hA' with hA'
  subst hA'
  exact ⟨g, d, hA, hlt, hd, hO, h.fv v (List.mem_of_getElem? hv), by have := hc 0 _ rfl; rw [Nat.mul_one] at this; exact this, hf, h.vals.inF g hA⟩
/-- value k is stored anew -/
theorem DB.store {g : Nat} (h : DB T w F p Al n cl (some ⟨g, 0, none⟩) cv L V ds es) (hT : T ≠ 23) {k : Nat} {v : List UInt8} {A : Option Addr} {m c : Nat} (hk : k < n) (hv : OwnB w 0 A m c v) (hF : FIn F A) (hfit : fitB v) :
    DB T (w.setCell ⟨g, k, none⟩ (.slice A m c)) F p Al n cl (some ⟨g, 0, none⟩) cv L (V.set k v) ds (es.set k (A, c)) := by
  obtain rfl := hv.hn
  have hv' : OwnB w 0 (A, c).1 v.length (A, c).2 v := hv
  have hG : w.grownBy (w.setCell ⟨g, k, none⟩ (.slice A v.length c)) (Value.ownBlock (.slice (some ⟨g, 0, none⟩) n cv)) := grown_set (World.grownBy.refl _ _) (.inl rfl) k _
  have keepB : ∀ {m : Nat} {dd : Option Addr × Nat} {l : List UInt8}, OwnB w 0 dd.1 m dd.2 l → OwnB (w.setCell ⟨g, k, none⟩ (.slice A v.length c)) 0 dd.1 m dd.2 l := fun hO => ⟨hO.hn, hO.own.grown hG (own_ne' hO.own h.vals.own (by decide))⟩
  refine ⟨h.blk.grown hG (blk_own_ne h.blk h.vals.own hT), h.inF, ⟨h.ents.hn, h.ents.hd, h.ents.own.grown hG (own_ne' h.ents.own h.vals.own (by decide)), h.ents.inF, fun j E d h1 h2 => ⟨keepB (h.ents.data j E d h1 h2).1, (h.ents.data j E d h1 h2).2⟩⟩, ?_, h.fe, ?_⟩
  · exact h.vals.store valF_len (by decide) (v := v) (d := (A, c)) (u := .slice A v.length c) rfl hk hv' hF
  · intro x hx
    rcases List.mem_or_eq_of_mem_set hx with hx | rfl
    · exact h.fv x hx
    · exact hfit
end
end
end Go.Proofs.YtehabbnohoomjaaGreatDoor
namespace Go.Proofs.YtehabbnohoomjaaGreatDoor
section
set_option linter.unusedVariables false
set_option linter.unusedSimpArgs false
set_option linter.unnecessarySimpa false
open Go.RowKit
set_option maxRecDepth 100000
set_option maxHeartbeats 2000000

theorem ent_readable (E : Ent) (A : Option Addr) (n c : Nat) (w : World) : Calls Tryz.prog 77 #[.agg (entV E A n c)] w fun e w' => e = .returned (.int .u32 (readE E.acc)) ∧ Below w.heap.size w w' := by
  obtain ⟨ix, sub, nm, ty, acc, mp, st, mx, lo, hi, df⟩ := E
  unfold entV
  go_enter Tryz.func77, Tryz.ntmps77
  go_wp2_with fail
  all_goals (go_ret; exact ⟨ret_int (by simp_all [readE]; try omega), below_alloc (Below.refl _ _) _⟩)
theorem ent_writable (E : Ent) (A : Option Addr) (n c : Nat) (w : World) : Calls Tryz.prog 127 #[.agg (entV E A n c)] w fun e w' => e = .returned (.int .u32 (writeE E.acc)) ∧ Below w.heap.size w w' := by
  obtain ⟨ix, sub, nm, ty, acc, mp, st, mx, lo, hi, df⟩ := E
  unfold entV
  go_enter Tryz.func127, Tryz.ntmps127
  go_wp2_with fail
  all_goals (go_ret; exact ⟨ret_int (by simp_all [writeE]; try omega), below_alloc (Below.refl _ _) _⟩)
theorem ent_before (E F : Ent) (A B : Option Addr) (n c m d : Nat) (w : World) : Calls Tryz.prog 57 #[.agg (entV E A n c), .agg (entV F B m d)] w fun e w' => e = .returned (.bool (beforeB E.ix E.sub F.ix F.sub)) ∧ Below w.heap.size w w' := by
  obtain ⟨ix, sub, nm, ty, acc, mp, st, mx, lo, hi, df⟩ := E
  obtain ⟨ix', sub', nm', ty', acc', mp', st', mx', lo', hi', df'⟩ := F
  unfold entV
  go_enter Tryz.func57, Tryz.ntmps57
  go_wp2_with fail
  all_goals (go_ret; exact ⟨ret_bool (by rw [Bool.eq_iff_iff]; simp_all [beforeB]; try omega), below_alloc (below_alloc (Below.refl _ _) _) _⟩)
end
end Go.Proofs.YtehabbnohoomjaaGreatDoor

/- A journal in memory: its looks, its small functions. -/
import Derived.Test.YtfddfgonhgidbaaFlaE
import Derived.Test.YtfddfgonhgidbaaFlaF
import Derived.Test.YtfddfgonhgidbaaJouM
namespace Go.Proofs.Ytfddfgonhgidbaa
set_option linter.unusedVariables false
set_option linter.unusedSimpArgs false
set_option linter.unnecessarySimpa false
open Go.RowKit
set_option maxRecDepth 20000
set_option maxHeartbeats 4000000

def lkF (x : LK) (d : Option Addr × Nat) : List Value := [.int .i64 x.k, .int .u32 (x.m : Nat), .slice d.1 x.d.length d.2, .int .i64 (x.cnt : Nat), .int .i64 (x.en : Nat), .bool x.cl]
theorem lkF_len (x : LK) (d : Option Addr × Nat) : (lkF x d).length = 6 := rfl
theorem lkF_one (x : LK) (d : Option Addr × Nat) : ∀ u ∈ lkF x d, u.oneCell' = true := by
  intro u hu
  simp only [lkF, List.mem_cons, List.not_mem_nil, or_false] at hu
  rcases hu with rfl | rfl | rfl | rfl | rfl | rfl <;> rfl
theorem infoLk : (Try.prog.info? 88).map (fun i => (i.zero, i.size, i.bytes)) = some (some (.agg #[.int .i64 0, .int .u32 0, .slice none 0 0, .int .i64 0, .int .i64 0, .bool false]), 6, 64) := by kernel_rfl
/-- a look whose numbers are small -/
structure FitK (x : LK) : Prop where
  m : U32 x.m
  d : x.d.length ≤ 2000
  cnt : 13 * x.cnt ≤ x.en
  en : x.en ≤ 2000
abbrev OwnLk (w : World) (F : Nat → Prop) (A : Option Addr) (n c : Nat) (L : List LK) (ds : List (Option Addr × Nat)) : Prop := OwnF lkF 6 88 LK.d w F A n c L ds
def joC (pf : Nat) (A : Option Addr) (n c : Nat) (J : JS) : List Value := [.slice A n c, .int .i64 (J.now : Nat), .bool J.has, .pointer (some ⟨pf, 0, none⟩), .bool J.dead]
/-- a journal at block p, over the flash at pf, in blocks of F -/
structure JD (w : World) (F : Nat → Prop) (p pf : Nat) (A : Option Addr) (n c : Nat) (J : JS) (ds : List (Option Addr × Nat)) : Prop where
  blk : Blk w p 86 (joC pf A n c J).toArray
  inF : F p
  lks : OwnLk w F A n c J.looks ds
  fit : ∀ x ∈ J.looks, FitK x
  n8 : n ≤ 8
  now : J.now ≤ 8
  at_ : J.has = true → J.now < n
section
variable {w w' : World} {F G : Nat → Prop} {p pf n c : Nat} {A : Option Addr} {J : JS} {ds : List (Option Addr × Nat)}
theorem JD.keep (h : JD w F p pf A n c J ds) (hk : ∀ g, F g → g < w.heap.size → w'.heap[g]? = w.heap[g]?) : JD w' F p pf A n c J ds :=
  ⟨(hk p h.inF h.blk.lt).trans h.blk, h.inF, h.lks.keep hk, h.fit, h.n8, h.now, h.at_⟩
theorem JD.below (h : JD w F p pf A n c J ds) (hb : Below w.heap.size w w') : JD w' F p pf A n c J ds := h.keep fun g _ hlt => hb.block g hlt
theorem JD.mono (h : JD w F p pf A n c J ds) (hG : ∀ g, g < w.heap.size → F g → G g) : JD w G p pf A n c J ds :=
  ⟨h.blk, hG p h.blk.lt h.inF, h.lks.mono hG, h.fit, h.n8, h.now, h.at_⟩
theorem JD.only {H : Nat → Prop} (h : JD w F p pf A n c J ds) (ho : Only H w w') (hH : ∀ g, F g → ¬ H g) : JD w' F p pf A n c J ds := h.keep fun g hg hlt => ho.block g hlt (hH g hg)
/-- the struct is stored anew, the looks stay -/
theorem JD.reblk {J' : JS} (h : JD w F p pf A n c J ds) (ho : Only (fun g => g = p) w w') (hB : Blk w' p 86 (joC pf A n c J').toArray) (h1 : J'.looks = J.looks) (h2 : J'.now ≤ 8) (h3 : J'.has = true → J'.now < n) : JD w' F p pf A n c J' ds := by
  have hk : ∀ g, g ≠ p → g < w.heap.size → w'.heap[g]? = w.heap[g]? := fun g hg hlt => ho.block g hlt hg
  have hA : ∀ g, A = some ⟨g, 0, none⟩ → g ≠ p := fun g hg e => blk_own_ne h.blk h.lks.own (by decide) (by rw [hg, ← e]; rfl)
  have hd : ∀ {m c' : Nat} {A' : Option Addr} {l : List UInt8}, OwnB w 0 A' m c' l → OwnB w' 0 A' m c' l := fun hO => ⟨hO.hn, hO.own.keep (fun g _ hlt hA' => hk g (fun e => blk_own_ne h.blk hO.own (by decide) (by rw [hA', ← e]; rfl)) hlt)⟩
  refine ⟨hB, h.inF, ?_, by rw [h1]; exact h.fit, h.n8, h2, h3⟩
  rw [h1]
  exact ⟨h.lks.hn, h.lks.hd, h.lks.own.keep (fun g _ hlt hA' => hk g (hA g hA') hlt), h.lks.inF, fun j v d e1 e2 => ⟨hd (h.lks.data j v d e1 e2).1, (h.lks.data j v d e1 e2).2⟩⟩
/-- look k's cells -/
theorem JD.look (h : JD w F p pf A n c J ds) {k : Nat} {x : LK} (hx : J.looks[k]? = some x) : ∃ g d, A = some ⟨g, 0, none⟩ ∧ g < w.heap.size ∧ ds[k]? = some d ∧ OwnB w 0 d.1 x.d.length d.2 x.d ∧ FitK x ∧ k < n ∧
    (w.cell? ⟨g, k * 6, none⟩ = some (.int .i64 x.k) ∧ w.cell? ⟨g, k * 6 + 1, none⟩ = some (.int .u32 (x.m : Nat)) ∧ w.cell? ⟨g, k * 6 + 2, none⟩ = some (.slice d.1 x.d.length d.2) ∧
    w.cell? ⟨g, k * 6 + 3, none⟩ = some (.int .i64 (x.cnt : Nat)) ∧ w.cell? ⟨g, k * 6 + 4, none⟩ = some (.int .i64 (x.en : Nat)) ∧ w.cell? ⟨g, k * 6 + 5, none⟩ = some (.bool x.cl)) ∧ F g ∧ FIn F d.1 := by
  obtain ⟨d, hd, hO, hFd⟩ := h.lks.elem hx
  obtain ⟨g, hA, hlt, hc⟩ := h.lks.cells lkF_len hx hd (by omega)
  exact ⟨g, d, hA, hlt, hd, hO, h.fit x (List.mem_of_getElem? hx), by rw [h.lks.hn]; exact (List.getElem?_eq_some_iff.1 hx).1, ⟨hc 0 _ rfl, hc 1 _ rfl, hc 2 _ rfl, hc 3 _ rfl, hc 4 _ rfl, hc 5 _ rfl⟩, h.lks.inF g hA, hFd⟩
/-- the looks as sector's functions read them -/
def kvs : List LK → List (Option Addr × Nat) → List KV
  | x :: L, d :: ds => ⟨x.k, x.m, d.1, x.d.length, d.2, x.cnt, x.en, x.cl⟩ :: kvs L ds
  | _, _ => []
theorem kvs_len : ∀ (L : List LK) (ds : List (Option Addr × Nat)), ds.length = L.length → (kvs L ds).length = L.length := by
  intro L
  induction L with
  | nil => intro ds h; cases ds <;> rfl
  | cons x L ih =>
    intro ds h
    cases ds with
    | nil => simp at h
    | cons d ds => simp only [kvs, List.length_cons]; rw [ih ds (by simpa using h)]
theorem kvs_at : ∀ (L : List LK) (ds : List (Option Addr × Nat)) (j : Nat) (v : KV), (kvs L ds)[j]? = some v → ∃ x d, L[j]? = some x ∧ ds[j]? = some d ∧ v = ⟨x.k, x.m, d.1, x.d.length, d.2, x.cnt, x.en, x.cl⟩ := by
  intro L
  induction L with
  | nil => intro ds j v h; cases ds <;> simp [kvs] at h
  | cons x L ih =>
    intro ds j v h
    cases ds with
    | nil => simp [kvs] at h
    | cons d ds =>
      cases j with
      | zero => simp [kvs] at h; exact ⟨x, d, rfl, rfl, h.symm⟩
      | succ j => simpa [kvs] using ih ds j v (by simpa [kvs] using h)
theorem OwnF.slk (h : OwnLk w F A n c J.looks ds) : SlK w A (kvs J.looks ds) := by
  intro j v hv
  obtain ⟨x, d, hx, hd, rfl⟩ := kvs_at _ _ _ _ hv
  obtain ⟨g, hA, hlt, hc⟩ := h.cells lkF_len hx hd (by omega)
  exact ⟨g, 0, hA, by rw [Nat.zero_add]; exact hc 0 _ rfl, by rw [Nat.zero_add]; exact hc 1 _ rfl, by rw [Nat.zero_add]; exact hc 2 _ rfl, by rw [Nat.zero_add]; exact hc 3 _ rfl, by rw [Nat.zero_add]; exact hc 4 _ rfl, by rw [Nat.zero_add]; exact hc 5 _ rfl⟩
end
/-! newest and next hang on counts, numbers and cleanness alone -/
def likeK (K K' : List KV) : Prop := ∀ j, (K.getD j default).cnt = (K'.getD j default).cnt ∧ (K.getD j default).m = (K'.getD j default).m ∧ (K.getD j default).cl = (K'.getD j default).cl
theorem newest_like {K K' : List KV} (h : likeK K K') (n : Nat) : newestS K n = newestS K' n := by
  induction n with
  | zero => rfl
  | succ n ih => unfold newestS; rw [ih, (h n).1, (h n).2.1, (h _).2.1]
theorem next_like {K K' : List KV} (h : likeK K K') (wear left : List Int) (nw : Nat × Bool) (n : Nat) : nextS K wear left nw n = nextS K' wear left nw n := by
  induction n with
  | zero => rfl
  | succ n ih =>
    unfold nextS
    rw [ih]
    have : skipB K left nw n = skipB K' left nw n := by unfold skipB; rw [(h n).1, (h n).2.2]
    rw [this]
theorem kvs_like : ∀ (L : List LK) (ds : List (Option Addr × Nat)), ds.length = L.length → likeK (kvs L ds) (L.map kvO) := by
  intro L
  induction L with
  | nil => intro ds h j; cases ds <;> simp [kvs]
  | cons x L ih =>
    intro ds h j
    cases ds with
    | nil => simp at h
    | cons d ds =>
      cases j with
      | zero => exact ⟨rfl, rfl, rfl⟩
      | succ j =>
        have := ih ds (by simpa using h) j
        simpa [kvs] using this
theorem newest_kvs (L : List LK) (ds : List (Option Addr × Nat)) (h : ds.length = L.length) : newestS (kvs L ds) L.length = newL L := newest_like (kvs_like L ds h) _
theorem next_kvs (L : List LK) (ds : List (Option Addr × Nat)) (wear : List Nat) (most : Int) (h : ds.length = L.length) : nextS (kvs L ds) (wear.map fun x => ((x : Nat) : Int)) (wear.map fun x => most - ((x : Nat) : Int)) (newestS (kvs L ds) L.length) L.length = nextL L wear most := by
  rw [newest_kvs L ds h, next_like (kvs_like L ds h)]
  rfl
theorem look_fit (l : List UInt8) (hl : l.length ≤ 1024) : FitK (lookL l) := by
  have h : ∀ (f : Nat) (x : LK), 13 * x.cnt ≤ x.en → x.d.length ≤ x.en → (13 * (lookF l f x).cnt ≤ (lookF l f x).en ∧ (lookF l f x).d.length ≤ (lookF l f x).en) := by
    intro f
    induction f with
    | zero => intro x h1 h2; exact ⟨h1, h2⟩
    | succ f ih =>
      intro x h1 h2
      rw [lookF]
      split
      · exact ⟨h1, h2⟩
      · exact ih _ (by simp only []; omega) (by simp only []; omega)
  obtain ⟨h1, h2⟩ := h l.length lookZ (Nat.le_refl _) (Nat.le_refl _)
  have h3 := lookE_len l
  have e1 : (lookL l).cnt = (lookF l l.length lookZ).cnt := rfl
  have e2 : (lookL l).en = (lookE l).en := rfl
  have e3 : (lookL l).d = (lookF l l.length lookZ).d := rfl
  have e4 : (lookE l).en = (lookF l l.length lookZ).en := rfl
  exact ⟨look_u32, by rw [e3]; omega, by rw [e1, e2, e4]; exact h1, by rw [e2]; omega⟩
section
variable {F : Nat → Prop} {p pf n c : Nat} {A : Option Addr} {J : JS} {ds : List (Option Addr × Nat)}
theorem jo_At (w : World) (hD : JD w F p pf A n c J ds) : Calls Try.prog 30 #[.pointer (some ⟨p, 0, none⟩)] w fun e w' => e = .returned (.int .i64 (J.now : Nat)) ∧ w = w' := by
  have c1 := hD.blk.cell 1 (u := .int .i64 (J.now : Nat)) rfl
  clear hD
  go_enter Try.func30, Try.ntmps30
  go_wp2_with fail
  go_ret
  exact ⟨rfl, rfl⟩
theorem jo_At0 (w : World) : Calls Try.prog 30 #[.pointer none] w fun e w' => e = .returned (.int .i64 0) ∧ w = w' := by
  go_enter Try.func30, Try.ntmps30
  go_wp2_with fail
  go_ret
  exact ⟨rfl, rfl⟩
theorem jo_off (e : Int) (w : World) (hD : JD w F p pf A n c J ds) : Calls Try.prog 35 #[.pointer (some ⟨p, 0, none⟩), .int .i64 e] w fun e' w' => e' = .returned (.int .i64 e) ∧ JD w' F p pf A n c ⟨J.looks, J.now, J.has, (J.dead || decide (e = 7))⟩ ds ∧ Only (fun g => g = p) w w' := by
  have f4 := hD.blk.frozen 4
  have c4 := hD.blk.cell 4 (u := .bool J.dead) rfl
  have HD := hide hD
  clear hD
  by_cases h7 : e = 7
  · subst h7
    go_enter Try.func35, Try.ntmps35
    go_wp2_with fail
    go_ret
    refine ⟨rfl, ?_, only1 _ _⟩
    have h1 := blk_setL HD.out.blk 4 (.bool true)
    have e1 : (joC pf A n c J).set 4 (.bool true) = joC pf A n c ⟨J.looks, J.now, J.has, (J.dead || decide ((7 : Int) = 7))⟩ := by simp [joC]
    rw [e1] at h1
    exact HD.out.reblk (only1 _ _) h1 rfl HD.out.now HD.out.at_
  · go_enter Try.func35, Try.ntmps35
    go_wp2_with fail
    go_ret
    exact ⟨rfl, by rw [decide_eq_false h7, Bool.or_false]; exact HD.out, Only.refl _ _⟩
end
end Go.Proofs.Ytfddfgonhgidbaa

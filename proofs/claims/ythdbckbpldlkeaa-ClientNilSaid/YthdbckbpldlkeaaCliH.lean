/- Package client: of, New, Write. -/
import Derived.Test.YthdbckbpldlkeaaCliG
import Derived.Test.YthdbckbpldlkeaaRetM
namespace Go.Proofs.Ythdbckbpldlkeaa
set_option linter.unusedVariables false
set_option linter.unusedSimpArgs false
set_option linter.unnecessarySimpa false
open Go.RowKit Go.Maps
set_option maxRecDepth 100000
set_option maxHeartbeats 8000000
section
variable {w0 : World} {G : Nat → Prop} {p m : Nat} {ks : List KB} {rs : List RB}
def placeM (k ix sub : Int) : Ms := ⟨k, ix, sub, false, false, false, false, 0, 0, [], 0, 0, 0, 0⟩
theorem cl_of (S : CliS) (R : CR) (k : Int) (W : World) (h : CM w0 G p m S.wk (cliL S m R) ks rs W) :
    Calls Try.prog 26 #[.pointer (some ⟨p, 0, none⟩), .int .i64 k] W fun e W' => e = .returned (.agg (msV (placeM k S.ix S.sub) none 0 0)) ∧ Below W.heap.size W W' := by
  have H1 := hide (h.alloc (.cells (msV msZ none 0 0) 63))
  have hbw := below_alloc (Below.refl W.heap.size W) (.cells (msV msZ none 0 0) 63)
  have HB := hide hbw
  clear h hbw
  unfold msV msZ at H1 HB
  go_enter Try.func26, Try.ntmps26
  go_upto_region 1 with fail
  refine wp_gen (P := fun W1 => CM w0 G p m S.wk (cliL S m R) ks rs W1 ∧ Below W.heap.size W W1 ∧ W1.heap.size = W.heap.size + 1 ∧ Blk W1 W.heap.size 63 (msV msZ none 0 0)) ⟨H1.out, HB.out, by simp, blk_one W _ _⟩ (fun W1 h1 => ?_)
  clear H1 HB
  obtain ⟨h1, hb, hz, hq⟩ := h1
  have H1 := hide h1
  have HB := hide hb
  have z1 := h1.lt
  obtain ⟨a3, a4, a5, a6, a7, a8, a9, a10, a11, a12, a13, a14, a15, a16⟩ := cli_pl h1.blk
  have zq := hq.lt
  have hsq : Blk (W1.setCells W.heap.size 0 (msV (placeM k S.ix S.sub) none 0 0).toList) W.heap.size 63 (msV (placeM k S.ix S.sub) none 0 0) := blk_sets (msV (placeM k S.ix S.sub) none 0 0).toList 0 (l := (msV msZ none 0 0).toList) hq (by simp [msV])
  have hso : Below W.heap.size W (W1.setCells W.heap.size 0 (msV (placeM k S.ix S.sub) none 0 0).toList) := below_only (only_sets (F := fun q => q = W.heap.size) rfl _ _ (Only.refl _ _)) hb (fun i h => by omega)
  have HSQ := hide (And.intro (hsq.alloc (.cells (msV (placeM k S.ix S.sub) none 0 0) 63)) (below_alloc hso (.cells (msV (placeM k S.ix S.sub) none 0 0) 63)))
  clear hsq hso
  have HZ := hide hz
  unfold msV msZ at hq
  obtain ⟨hq_c0, hq_c1, hq_c2, hq_c3, hq_c4, hq_c5, hq_c6, hq_c7, hq_c8, hq_c9, hq_c10, hq_c11, hq_c12, hq_c13⟩ := cel14 hq
  have hq_f := hq.frozen
  have hne : W.heap.size < W1.heap.size := zq
  clear h1 hb hz
  go_wp2_with fail
  exact ret_msg (g := W.heap.size) (M := placeM k S.ix S.sub) (A := none) (n := 0) (c := 0) rfl rfl rfl HSQ.out.1 ⟨rfl, HSQ.out.2⟩
end
def crZ : CR := ⟨msZ, none, 0, 0, none, 0, 0, none, 0, 0⟩
theorem cl_new (node : Int) (w : World) (h : 1 ≤ node ∧ node ≤ 127) :
    Calls Try.prog 7 #[.int .i64 node] w fun e w' => ∃ p m, e = .returned (.tuple #[.pointer (some ⟨p, 0, none⟩), .int .i64 0]) ∧ CV_ w' (fun _ => False) p m (cliZ node) ∧ Below w.heap.size w w' ∧ w.heap.size ≤ p ∧ w.heap.size ≤ m := by
  have hmm := @run_makeMap Try.prog
  have HN := hide h
  clear h
  go_enter Try.func7, Try.ntmps7
  go_wp2_with fail
  refine (cid_yes 7 (.inl rfl) node HN.out _).mono ?_
  rintro e w1 ⟨rfl, hb1⟩
  go_wp2_with fail
  refine (cid_yes 8 (.inr rfl) node HN.out _).mono ?_
  rintro e w2 ⟨rfl, hb2⟩
  have HB := hide (below_step hb2 hb1)
  clear hb1 hb2
  have hq := Blk.new (w2.alloc (.map #[] 0)) 65 (cliL (cliZ node) w2.heap.size crZ).toArray
  rw [show (w2.alloc (.map #[] 0)).heap.size = w2.heap.size + 1 by simp] at hq
  have hm : WM ((w2.alloc (.map #[] 0)).alloc (.cells (cliL (cliZ node) w2.heap.size crZ).toArray 65)) w2.heap.size 0 := (wm_new w2).keep ((below_alloc (Below.refl _ (w2.alloc (.map #[] 0))) (.cells (cliL (cliZ node) w2.heap.size crZ).toArray 65)).block _ (by simp))
  have hz2 := HB.out.size
  have HF : Hid (CV_ ((w2.alloc (.map #[] 0)).alloc (.cells (cliL (cliZ node) w2.heap.size crZ).toArray 65)) (fun _ => False) (w2.heap.size + 1) w2.heap.size (cliZ node) ∧ Below w.heap.size w ((w2.alloc (.map #[] 0)).alloc (.cells (cliL (cliZ node) w2.heap.size crZ).toArray 65))) := hide ⟨⟨crZ, hq, hm, ⟨rfl, rfl, rfl, Nat.zero_le _⟩, fun h => absurd rfl h, rfl, fun h => absurd rfl h⟩, below_alloc (below_alloc HB.out _) _⟩
  clear hq hm
  go_wp2_with fail
  go_ret2
  exact ⟨_, _, rfl, HF.out.1, HF.out.2, by omega, hz2⟩
theorem cl_new_no (node : Int) (w : World) (h : ¬ (1 ≤ node ∧ node ≤ 127)) :
    Calls Try.prog 7 #[.int .i64 node] w fun e w' => e = .returned (.tuple #[.pointer none, .int .i64 1]) ∧ Below w.heap.size w w' := by
  have HN := hide h
  clear h
  go_enter Try.func7, Try.ntmps7
  go_wp2_with fail
  refine (cid_no 7 (.inl rfl) node HN.out _).mono ?_
  rintro e w1 ⟨rfl, hb1⟩
  go_wp2_with fail
  refine (cid_no 8 (.inr rfl) node HN.out _).mono ?_
  rintro e w2 ⟨rfl, hb2⟩
  have HB := hide (below_step hb2 hb1)
  clear hb1 hb2
  go_wp2_with fail
  go_ret2
  exact ⟨rfl, HB.out⟩
end Go.Proofs.Ythdbckbpldlkeaa

/- Package frame: fixed texts read (printed by wip/tools/gen_frme.py). -/
import Derived.Test.YthdbckbpldlkeaaFrmD
namespace Go.Proofs.Ythdbckbpldlkeaa
set_option linter.unusedVariables false
set_option linter.unusedSimpArgs false
set_option linter.unnecessarySimpa false
open Go.RowKit
set_option maxRecDepth 100000
set_option maxHeartbeats 4000000
theorem fr_size : (Try.prog.info? 34).map (·.size) = some 3 := by kernel_rfl
def frV (id : Int) (re : Bool) (A : Option Addr) (n c : Nat) : Array Value := #[.int .i64 id, .bool re, .slice A n c]
theorem ret_fr_tmp {fn : Func} {p u : Tmp} (h : fn.results = #[.cell p 34, .tmp u]) {a : Act} {w : World} {g : Nat} {id : Int} {re : Bool} {A : Option Addr} {n c : Nat} {R : Ending → World → Prop} (hd : a.defers = []) (hp : a.tmps.getD p undef = .pointer (some ⟨g, 0, none⟩))
    (hB : Blk w g 34 (frV id re A n c)) (hR : R (.returned (.tuple #[.agg (frV id re A n c), a.tmps.getD u undef])) w) : bodyPost Try.prog fn R .ret a w := by
  refine bodyPost_ret ?_ hd hR
  rw [results_cell_tmp h, hp]
  simp only [asAddr, Sem.run_pure, Result.andThen_ok]
  rw [run_loadVar_row w g _ _ _ _ _ hB Try.underlying34 rfl (show _ = some (frV id re A n c).size from fr_size)]
  rfl
def ParseR (id : Int) (d : List UInt8) (w : World) (e : Ending) (w' : World) : Prop :=
  ∃ A n c, e = .returned (.tuple #[.agg (frV id false A n c), .int .i64 0]) ∧ OwnB w' w.heap.size A n c d ∧ Below w.heap.size w w'
theorem frm_parse (idf : Int) (hid0 : 0 ≤ idf ∧ idf ≤ 2047) (s : ByteArray) (n : Nat) (r : ByteArray) (d : List UInt8) (hi : ∀ w, Calls Try.prog 46 #[.string s] w fun e w' => e = .returned (.tuple #[.int .i64 idf, .string r, .bool true]) ∧ Below w.heap.size w w') (hr : r.size = 2 * n) (hn : n ≤ 8) (hR : (r.toList == [82]) = false) (hd : ∀ i, i < r.size → hexD ((r.data.getD i 0).toNat)) (hdd : unhL r n = d) (w : World) :
    Calls Try.prog 22 #[.string s] w (ParseR idf d w) := by
  have HR := hide hr
  have HI := hide hi
  have HDD := hide hdd
  have HHD := hide hd
  have HI0 := hide hid0
  have hbw := below_alloc (Below.refl w.heap.size w) (.cells (frV 0 false none 0 0) 34)
  have q0 := blk_one w 34 (frV 0 false none 0 0)
  have HB := hide hbw
  have HQ := hide q0
  clear hr hi hdd hd hid0 hbw q0
  unfold frV at HB HQ
  go_enter Try.func22, Try.ntmps22
  go_wp2_with fail
  refine (HI.out _).mono ?_
  rintro e w1 ⟨rfl, hb1⟩
  have HNE := hide (show w.heap.size ≠ w1.heap.size by have := (HQ.out.below hb1 HQ.out.lt).lt; omega)
  have HW1 := hide (show w.heap.size ≤ w1.heap.size from (below_step hb1 HB.out).size)
  have HQ1 := hide (HQ.out.below hb1 HQ.out.lt)
  have HB1 := hide (below_step hb1 HB.out)
  have q1 := blk_one w1 34 (frV idf false none 0 0)
  have HB1b := hide (below_alloc HB1.out (.cells (frV idf false none 0 0) 34))
  have HQ1b := hide (HQ1.out.below (below_alloc (Below.refl _ _) (.cells (frV idf false none 0 0) 34)) HQ1.out.lt)
  have HQF := hide q1
  unfold frV at HB1b HQ1b HQF q1
  clear hb1 HQ HB HB1 HQ1
  obtain ⟨q1_c0, q1_c1, q1_c2⟩ := cel3 q1
  have q1_f := q1.frozen
  go_wp2_with fail
  refine (oct_unhex r n HR.out (by omega) HHD.out _).mono ?_
  rintro e w2 ⟨A, c, rfl, hO, hb2⟩
  have HO := hide hO
  have HQ2 := hide (HQ1b.out.below hb2 HQ1b.out.lt)
  have HF2 := hide (HQF.out.below hb2 HQF.out.lt)
  have HB2 := hide (below_step hb2 HB1b.out)
  have zf : w1.heap.size < w2.heap.size := HF2.out.lt
  have zq : w.heap.size < w2.heap.size := HQ2.out.lt
  have hne : w.heap.size ≠ w1.heap.size := HNE.out
  clear q1_c0 q1_c1 q1_c2 q1_f
  have q2 := HF2.out
  obtain ⟨q2_c0, q2_c1, q2_c2⟩ := cel3 q2
  have q2_f := q2.frozen
  clear hO hb2 q1 HQ1b HB1b HQF hR
  go_wp2_with fail
  have HF3 : Hid (Blk (w2.setCell ⟨w1.heap.size, 2, none⟩ (.slice A n c)) w1.heap.size 34 (frV idf false A n c)) := hide (HF2.out.set_ 2 (.slice A n c))
  have HQ3 := hide (HQ2.out.far (p := ⟨w1.heap.size, 2, none⟩) hne (.slice A n c))
  have HO3 := hide (HO.out.set_ (p := ⟨w1.heap.size, 2, none⟩) (by simp) (.slice A n c))
  have HB3 := hide (below_only (Only.of_set (F := fun q => q = w1.heap.size) (p := ⟨w1.heap.size, 2, none⟩) rfl (.slice A n c)) HB2.out (fun i h => by rw [h]; exact HW1.out))
  clear HF2 HQ2 HO HB2 q2
  clear q2_c0 q2_c1 q2_c2 q2_f
  refine (frm_check idf A n c _ HI0.out hn).mono ?_
  rintro e w4 ⟨rfl, hb4⟩
  have q4 := HF3.out.below hb4 HF3.out.lt
  have p4 := HQ3.out.below hb4 HQ3.out.lt
  have HO4 := hide (HO3.out.below hb4)
  have HB4 := hide (below_step hb4 HB3.out)
  have HP4 := hide p4
  have z4 := q4.lt
  have y4 := p4.lt
  unfold frV at q4
  obtain ⟨q4_c0, q4_c1, q4_c2⟩ := cel3 q4
  have q4_f := q4.frozen
  obtain ⟨p4_c0, p4_c1, p4_c2⟩ := cel3 p4
  have p4_f := p4.frozen
  clear hb4 HF3 HQ3 HO3 HB3 q4 p4
  have HP5 : Hid (Blk (((w4.setCell ⟨w.heap.size, 0, none⟩ (.int .i64 idf)).setCell ⟨w.heap.size, 1, none⟩ (.bool false)).setCell ⟨w.heap.size, 2, none⟩ (.slice A n c)) w.heap.size 34 (frV idf false A n c)) := hide (((HP4.out.set_ 0 (.int .i64 idf)).set_ 1 (.bool false)).set_ 2 (.slice A n c))
  have HO5 := hide (((HO4.out.set_ (p := ⟨w.heap.size, 0, none⟩) (by have := HW1.out; simp; omega) (.int .i64 idf)).set_ (p := ⟨w.heap.size, 1, none⟩) (by have := HW1.out; simp; omega) (.bool false)).set_ (p := ⟨w.heap.size, 2, none⟩) (by have := HW1.out; simp; omega) (.slice A n c))
  have HB5 := hide (((((Only.of_below HB4.out : Only (fun q => q = w.heap.size) w w4).setNew (g := w.heap.size) (i := 0) (Nat.le_refl _) (.int .i64 idf)).setNew (g := w.heap.size) (i := 1) (Nat.le_refl _) (.bool false)).setNew (g := w.heap.size) (i := 2) (Nat.le_refl _) (.slice A n c)).below (Nat.le_refl _) (fun i h => by omega))
  go_wp2_with fail
  refine ret_fr_tmp (g := w.heap.size) (id := idf) (re := false) (A := A) (n := n) (c := c) rfl rfl rfl HP5.out ?_
  exact ⟨A, n, c, rfl, by have := HO5.out; rw [HDD.out] at this; exact this.mono (by have := HW1.out; simp; omega), HB5.out⟩
def s585 : ByteArray := ⟨#[53, 56, 53, 35, 54, 48, 49, 55, 49, 48, 48, 48, 48, 48, 48, 48, 48, 48, 48, 48]⟩
theorem frm_p585 (w : World) : Calls Try.prog 22 #[.string ⟨#[53, 56, 53, 35, 54, 48, 49, 55, 49, 48, 48, 48, 48, 48, 48, 48, 48, 48, 48, 48]⟩] w (ParseR 1413 [96, 23, 16, 0, 0, 0, 0, 0] w) :=
  frm_parse 1413 (by omega) s585 8 ⟨#[54, 48, 49, 55, 49, 48, 48, 48, 48, 48, 48, 48, 48, 48, 48, 48]⟩ _ (fun w => (frm_id5 s585 (by decide) (by decide) (by decide) (by decide) (by decide) w).mono (fun e w' h => ⟨by rw [h.1]; rfl, h.2⟩)) (by decide) (by omega) (by decide +kernel) (by decide +kernel) (by decide +kernel) w
end Go.Proofs.Ythdbckbpldlkeaa

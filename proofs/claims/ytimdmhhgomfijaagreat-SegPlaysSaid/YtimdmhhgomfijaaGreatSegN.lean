/- Law package 21: known. -/
import Derived.Test.YtimdmhhgomfijaaGreatSegJ
import Derived.Test.YtimdmhhgomfijaaGreatDicN
import Derived.Lib.SlBytesConst
namespace Go.Proofs.YtimdmhhgomfijaaGreat
set_option linter.unusedVariables false
set_option linter.unusedSimpArgs false
set_option linter.unnecessarySimpa false
open Go.RowKit
set_option maxRecDepth 100000
set_option maxHeartbeats 4000000
def k21E : Ent := ⟨4104, 0, ⟨#[110, 97, 109, 101]⟩, 9, 4, false, false, 9, 0, 0, [104, 101, 108, 108, 111]⟩
def k21V : List (List UInt8) := [[104, 101, 108, 108, 111]]
def k21u : Ms := ⟨4, 4104, 0, false, false, false, false, 0, 0, [], 0, 0, 0, 0⟩
def k21s : Ms := ⟨5, 0, 0, false, false, false, false, 0, 0, [], 0, 0, 0, 0⟩
def k21d : Ms := ⟨2, 4104, 0, false, false, false, true, 0, 0, [97, 98], 0, 0, 0, 0⟩
def k21a : SegS := ⟨2, 4104, 0, 0, 0, [104, 101, 108, 108, 111], false, 0, 0, 0, false⟩
def k21b : SegS := ⟨0, 4104, 0, 0, 0, [], true, 0, 0, 0, false⟩
def k21c : SegS := ⟨3, 4104, 0, 0, 0, [], true, 12, 4104, 0, false⟩
theorem k21_1 : recvS [k21E] k21V segZ k21u = k21a := by kernel_rfl
theorem k21_2 : recvO [k21E] k21V segZ k21u = outM (upM 4104 0 5 []) := by kernel_rfl
theorem k21_3 : recvS [k21E] k21V k21a k21s = k21b := by kernel_rfl
theorem k21_4 : recvO [k21E] k21V k21a k21s = outM (segM false true [104, 101, 108, 108, 111]) := by kernel_rfl
theorem k21_5 : recvS [k21E] k21V k21b k21d = k21c := by kernel_rfl
theorem k21_6 : recvO [k21E] k21V k21b k21d = ⟨[], true, 4104, 0, [97, 98]⟩ := by kernel_rfl
theorem k21_n : NewP [k21E] 0 0 := .inr (.inr ⟨by decide, rfl, rfl, fun j hj => by
  have : j = 0 := by simp at hj; exact hj
  subst this
  decide +kernel⟩)
theorem k21_so : SortedE [k21E] := List.pairwise_singleton _ _
theorem conv_const2 (w : World) (C : Array Value) (n c : Nat) : (convert 39 39 (.slice (some ⟨w.heap.size, 0, none⟩) n c)).run Tryz.prog (w.alloc (.cells C 5)) = .ok (.slice (some ⟨w.heap.size, 0, none⟩) n c) (w.alloc (.cells C 5 (C.size, C.size + 1))) :=
  Lib.run_convert_bytes_const (P := Tryz.prog) w 39 5 C n c Tryz.underlying39 Tryz.underlying5
theorem sl_marked (w : World) (cs : Array Value) (t : TypeId) (fr : Nat × Nat) : Sl (w.alloc (.cells cs t fr)) (some ⟨w.heap.size, 0, none⟩) cs.toList := by
  intro j u hu
  refine ⟨_, rfl, ?_⟩
  rw [Addr.add_lit, Nat.zero_add]
  have hh := heap_alloc_new w (.cells cs t fr)
  simp only [World.cell?]
  rw [hh]
  simpa using hu
theorem sl_lit_ {w : World} {g t : Nat} {cs : Array Value} (h : Blk w g t cs) (l : List UInt8) (e : cs.toList = l.map bv) : Sl w (some ⟨g, 0, none⟩) (l.map bv) := by rw [← e]; exact h.sl
/-- what one message that came is, in memory -/
theorem ms_one {w : World} {N : Nat} {X : Nat → Prop} {As : Option Addr} {ns cs : Nat} {M : Ms} (h : MsR w N X As ns cs [M]) : ∃ g A n c, As = some ⟨g, 0, none⟩ ∧ ns = 1 ∧ cs = 1 ∧ N ≤ g ∧ Blk w g 72 (msV M A n c) ∧ OwnB w N A n c M.data := by
  rcases h with ⟨h, _⟩ | ⟨M', g, A, n, c, h, a, b, c1, d, e, f, _⟩
  · cases h
  · injection h with h _
    subst h
    exact ⟨g, A, n, c, a, b, c1, d, e, f⟩
theorem ms_none {w : World} {N : Nat} {X : Nat → Prop} {As : Option Addr} {ns cs : Nat} (h : MsR w N X As ns cs []) : As = none ∧ ns = 0 ∧ cs = 0 := by
  rcases h with ⟨_, a, b, c⟩ | ⟨M', g, A, n, c, h, _⟩
  · exact ⟨a, b, c⟩
  · cases h
theorem known_21 (w : World) : Calls Tryz.prog 7 #[] w (TrueB w) := by
  have hE : SlE ((w.alloc (.cells #[.int .u8 104, .int .u8 101, .int .u8 108, .int .u8 108, .int .u8 111] 5 (5, 6))).alloc (.cells (entV k21E (some ⟨w.heap.size, 0, none⟩) 5 5) 67)) (some ⟨w.heap.size + 1, 0, none⟩) [k21E] := by
    have q1 := (sl_marked w #[.int .u8 104, .int .u8 101, .int .u8 108, .int .u8 108, .int .u8 111] 5 (5, 6)).alloc (.cells (entV k21E (some ⟨w.heap.size, 0, none⟩) 5 5) 67)
    have q2 := Blk.new (w.alloc (.cells #[.int .u8 104, .int .u8 101, .int .u8 108, .int .u8 108, .int .u8 111] 5 (5, 6))) 67 (entV k21E (some ⟨w.heap.size, 0, none⟩) 5 5)
    rw [show (w.alloc (.cells #[.int .u8 104, .int .u8 101, .int .u8 108, .int .u8 108, .int .u8 111] 5 (5, 6))).heap.size = w.heap.size + 1 by simp] at q2
    intro j E hj
    have hj0 : j = 0 := by
      have := (List.getElem?_eq_some_iff.1 hj).1
      simp at this
      exact this
    subst hj0
    injection hj with hj
    subst hj
    exact ⟨w.heap.size + 1, 0, some ⟨w.heap.size, 0, none⟩, 5, rfl, ⟨q2.cell 0 rfl, q2.cell 1 rfl, q2.cell 2 rfl, q2.cell 3 rfl, q2.cell 4 rfl, q2.cell 5 rfl, q2.cell 6 rfl, q2.cell 7 rfl, q2.cell 8 rfl, q2.cell 9 rfl, q2.cell 10 rfl⟩, by decide, q1⟩
  have hbw := below_alloc (below_alloc (Below.refl w.heap.size w) (.cells #[.int .u8 104, .int .u8 101, .int .u8 108, .int .u8 108, .int .u8 111] 5 (5, 6))) (.cells (entV k21E (some ⟨w.heap.size, 0, none⟩) 5 5) 67)
  have HE := hide hE
  have HBW := hide hbw
  clear hE hbw
  unfold entV k21E at HE HBW
  have kc := conv_const2 w #[.int .u8 104, .int .u8 101, .int .u8 108, .int .u8 108, .int .u8 111] 5 5
  go_enter Tryz.func7, Tryz.ntmps7
  go_wp2_with fail
  clear kc
  refine (dict_new _ 1 1 [k21E] _ rfl HE.out (by intro E h; simp at h; subst h; exact ⟨by decide, by decide⟩)).mono ?_
  rintro e w1 ⟨v, er, at_, rfl, hnp, _, h0, hb1⟩
  obtain ⟨rfl, rfl⟩ := new_one hnp k21_n
  obtain ⟨pd, gl, n, cl, Av, cv, ds, es, rfl, hn, hD⟩ := h0 rfl
  have hbw1 := below_step hb1 HBW.out
  have HD : Hid (DB 76 w1 (fun g => g < w1.heap.size) pd (some ⟨gl, 0, none⟩) n cl Av cv [k21E] k21V ds es) := hide (hD.mono (fun g h _ => h))
  have H1 : Hid (n ≤ 1000) := hide (by rw [hn]; decide)
  clear hD hn h0 hnp HE HBW hb1
  go_wp2_with fail
  refine (seg_new pd _).mono ?_
  rintro e w2 ⟨rfl, hB2, hb2, hz2⟩
  obtain ⟨p, hpp⟩ : ∃ p, p = w1.heap.size := ⟨_, rfl⟩
  rw [← hpp] at hB2 ⊢
  have HPP := hide hpp
  have hbw2 := below_step hb2 hbw1
  have HD2 := hide (HD.out.below hb2)
  have HS2 : Hid (SV_ w2 (fun _ => True) p pd segZ) := hide ⟨none, 0, 0, hB2, fun h => absurd h (by decide)⟩
  have zp2 := hB2.lt
  have hwp : w.heap.size ≤ p := by rw [hpp]; exact hbw1.size
  clear hb2 hz2 hB2 hpp
  go_wp2_with fail
  refine (seg_new0 _).mono ?_
  rintro e w3 ⟨rfl, rfl⟩
  go_wp2_with fail
  refine (seg_recv (V := k21V) p segZ (fun _ => True) k21u none 0 0 _ HD2.out k21_so H1.out (by intro v h; simp [k21V] at h; subst h; decide) (by rw [HPP.out]; simp) HS2.out rfl (by decide) (fun W _ => by intro j u hu; simp [k21u] at hu) (by decide) (by decide)).mono ?_
  rintro e w3 ⟨X3, As3, ns3, cs3, A3, n3, c3, rfl, hm3, hO3, hX3, hS3, ho3⟩
  rw [k21_1] at hS3
  rw [k21_2] at hm3 hO3 ⊢
  obtain ⟨g3, Ad3, nd3, cd3, rfl, rfl, rfl, hg3, hM3, hOd3⟩ := ms_one hm3
  have HDk := hide (fun W (h : Only (fun q => q = p) w2 W) => HD2.out.keep (w' := W) (fun g (hg : g < w1.heap.size) hlt => h.block g hlt (fun e => by have := HPP.out; omega)))
  have z3 := ho3.size
  have HOa := hide (ho3.new (.cells (outV (some ⟨g3, 0, none⟩) 1 1 (outM (upM 4104 0 5 [])) A3 n3 c3) 70))
  have HSa : Hid (SV_ (w3.alloc (.cells (outV (some ⟨g3, 0, none⟩) 1 1 (outM (upM 4104 0 5 [])) A3 n3 c3) 70)) (fun _ => True) p pd k21a) := hide (hS3.keep (fun q _ hq => Below.heap_alloc _ _ _ hq) (by simp) (fun _ _ _ => trivial))
  have HQa := hide (Blk.new w3 70 (outV (some ⟨g3, 0, none⟩) 1 1 (outM (upM 4104 0 5 [])) A3 n3 c3))
  have HMa := hide (hM3.alloc (.cells (outV (some ⟨g3, 0, none⟩) 1 1 (outM (upM 4104 0 5 [])) A3 n3 c3) 70))
  have zs3 : (w3.alloc (.cells (outV (some ⟨g3, 0, none⟩) 1 1 (outM (upM 4104 0 5 [])) A3 n3 c3) 70)).heap.size = w3.heap.size + 1 := by simp
  unfold outV outM at HOa HSa HQa HMa
  have hRa := hide (fun W (h : Only (fun q => q = p) w2 W) (hs : SV_ W (fun _ => True) p pd k21a) => seg_recv (V := k21V) p k21a (fun _ => True) k21s none 0 0 W (HDk.out W h) k21_so H1.out (by intro v h; simp [k21V] at h; subst h; decide) (by rw [HPP.out]; simp) hs rfl (by decide) (fun W _ => by intro j u hu; simp [k21s] at hu) (by decide) (by decide))
  have hRb := hide (fun W A (h : Only (fun q => q = p) w2 W) (hs : SV_ W (fun _ => True) p pd k21b) (hd : ∀ W', Only (fun q => q = p) W W' → Sl W' A ([97, 98].map bv)) => seg_recv (V := k21V) p k21b (fun _ => True) k21d A 2 2 W (HDk.out W h) k21_so H1.out (by intro v h; simp [k21V] at h; subst h; decide) (by rw [HPP.out]; simp) hs rfl (by decide) hd (by decide) (by decide))
  clear hm3 hO3 hX3 hS3 ho3 hM3 hOd3 zs3
  unfold outV outM
  dsimp only
  go_wp2_with fail
  refine (hRa.out _ HOa.out HSa.out).mono ?_
  rintro e w5 ⟨X5, As5, ns5, cs5, A5, n5, c5, rfl, hm5, hO5, hX5, hS5, ho5⟩
  rw [k21_3] at hS5
  rw [k21_4] at hm5 hO5 ⊢
  obtain ⟨g5, Ad5, nd5, cd5, rfl, rfl, rfl, hg5, hM5, hOd5⟩ := ms_one hm5
  have zz5 : w3.heap.size + 1 ≤ w5.heap.size := by simpa using ho5.size
  have zg3 : g3 ≠ p := by omega
  have zg5 : g5 ≠ p := by have h : w3.heap.size + 1 ≤ g5 := by simpa using hg5
                          omega
  have kc := conv_const2 (w5.alloc (.cells (outV (some ⟨g5, 0, none⟩) 1 1 (outM (segM false true [104, 101, 108, 108, 111])) A5 n5 c5) 70)) #[.int .u8 97, .int .u8 98] 2 2
  simp only [World.size_alloc] at kc
  have HOb := hide ((HOa.out.trans ho5 (fun _ _ h => h)).new (.cells (outV (some ⟨g5, 0, none⟩) 1 1 (outM (segM false true [104, 101, 108, 108, 111])) A5 n5 c5) 70))
  have hsl := sl_marked (w5.alloc (.cells (outV (some ⟨g5, 0, none⟩) 1 1 (outM (segM false true [104, 101, 108, 108, 111])) A5 n5 c5) 70)) #[.int .u8 97, .int .u8 98] 5 (2, 3)
  simp only [World.size_alloc] at hsl
  have HSLb := hide hsl
  have HSb : Hid (SV_ ((w5.alloc (.cells (outV (some ⟨g5, 0, none⟩) 1 1 (outM (segM false true [104, 101, 108, 108, 111])) A5 n5 c5) 70)).alloc (.cells #[.int .u8 97, .int .u8 98] 5 (2, 3))) (fun _ => True) p pd k21b) := hide ((hS5.keep (w' := w5.alloc (.cells (outV (some ⟨g5, 0, none⟩) 1 1 (outM (segM false true [104, 101, 108, 108, 111])) A5 n5 c5) 70)) (H := fun _ => True) (fun q _ hq => Below.heap_alloc _ _ _ hq) (by simp) (fun _ _ _ => trivial)).keep (fun q _ hq => Below.heap_alloc _ _ _ hq) (by simp) (fun _ _ _ => trivial))
  have HQb := hide ((Blk.new w5 70 (outV (some ⟨g5, 0, none⟩) 1 1 (outM (segM false true [104, 101, 108, 108, 111])) A5 n5 c5)).alloc (.cells #[.int .u8 97, .int .u8 98] 5 (2, 3)))
  have HMb := hide ((hM5.alloc (.cells (outV (some ⟨g5, 0, none⟩) 1 1 (outM (segM false true [104, 101, 108, 108, 111])) A5 n5 c5) 70)).alloc (.cells #[.int .u8 97, .int .u8 98] 5 (2, 3)))
  have HDb := hide ((hOd5.alloc (.cells (outV (some ⟨g5, 0, none⟩) 1 1 (outM (segM false true [104, 101, 108, 108, 111])) A5 n5 c5) 70)).alloc (.cells #[.int .u8 97, .int .u8 98] 5 (2, 3)))
  have HQa5 := hide ((((blk_only HQa.out ho5 (show w3.heap.size ≠ p by omega)).alloc (.cells (outV (some ⟨g5, 0, none⟩) 1 1 (outM (segM false true [104, 101, 108, 108, 111])) A5 n5 c5) 70))).alloc (.cells #[.int .u8 97, .int .u8 98] 5 (2, 3)))
  have HMa5 := hide ((((blk_only HMa.out ho5 zg3).alloc (.cells (outV (some ⟨g5, 0, none⟩) 1 1 (outM (segM false true [104, 101, 108, 108, 111])) A5 n5 c5) 70))).alloc (.cells #[.int .u8 97, .int .u8 98] 5 (2, 3)))
  have zc : ((w5.alloc (.cells (outV (some ⟨g5, 0, none⟩) 1 1 (outM (segM false true [104, 101, 108, 108, 111])) A5 n5 c5) 70)).alloc (.cells #[.int .u8 97, .int .u8 98] 5 (2, 3))).heap.size = w5.heap.size + 2 := by simp
  have HZC := hide zc
  have hn5 : nd5 = 5 := hOd5.hn
  replace HOb := hide (HOb.out.new (.cells #[.int .u8 97, .int .u8 98] 5 (2, 3)))
  clear hsl zc hm5 hO5 hX5 hS5 hOd5 hM5 ho5
  subst hn5
  unfold outV outM at kc HOb HSLb HSb HQb HMb HDb HQa5 HMa5 HZC
  dsimp only at kc
  unfold outV outM
  dsimp only
  go_wp2_with fail
  refine (hRb.out _ (some ⟨w5.heap.size + 1, 0, none⟩) HOb.out HSb.out (fun W h => sl_blk HSLb.out (fun ad e => by
    injection e with e
    subst e
    exact h.block _ (by rw [HZC.out]; exact Nat.lt_succ_self _) (show w5.heap.size + 1 ≠ p by omega)))).mono ?_
  rintro e w7 ⟨X7, As7, ns7, cs7, A7, n7, c7, rfl, hm7, hO7, hX7, hS7, ho7⟩
  rw [k21_5] at hS7
  rw [k21_6] at hm7 hO7 ⊢
  obtain ⟨rfl, rfl, rfl⟩ := ms_none hm7
  have hn7 : n7 = 2 := hO7.hn
  subst hn7
  have zz7 := ho7.size
  rw [HZC.out] at zz7
  obtain ⟨A8, n8, c8, hB8, _⟩ := hS7
  have HB8 := hide (hB8.alloc (.cells (outV none 0 0 ⟨[], true, 4104, 0, [97, 98]⟩ A7 2 c7) 70))
  have HO7 := hide (hO7.alloc (.cells (outV none 0 0 ⟨[], true, 4104, 0, [97, 98]⟩ A7 2 c7) 70))
  have HQc := hide (Blk.new w7 70 (outV none 0 0 ⟨[], true, 4104, 0, [97, 98]⟩ A7 2 c7))
  have hne3 : w3.heap.size ≠ p := by omega
  have HQb7 := hide ((blk_only HQb.out ho7 (show w5.heap.size ≠ p by omega)).alloc (.cells (outV none 0 0 ⟨[], true, 4104, 0, [97, 98]⟩ A7 2 c7) 70))
  have HMb7 := hide ((blk_only HMb.out ho7 zg5).alloc (.cells (outV none 0 0 ⟨[], true, 4104, 0, [97, 98]⟩ A7 2 c7) 70))
  have HDb7 := hide ((ownB_only HDb.out ho7 (fun g h1 _ e => by simp at h1; omega)).alloc (.cells (outV none 0 0 ⟨[], true, 4104, 0, [97, 98]⟩ A7 2 c7) 70))
  have HQa7 := hide ((blk_only HQa5.out ho7 hne3).alloc (.cells (outV none 0 0 ⟨[], true, 4104, 0, [97, 98]⟩ A7 2 c7) 70))
  have HMa7 := hide ((blk_only HMa5.out ho7 zg3).alloc (.cells (outV none 0 0 ⟨[], true, 4104, 0, [97, 98]⟩ A7 2 c7) 70))
  have HOc := hide ((HOb.out.trans ho7 (fun _ _ h => h)).new (.cells (outV none 0 0 ⟨[], true, 4104, 0, [97, 98]⟩ A7 2 c7) 70))
  clear hm7 hX7 hO7 hB8 ho7
  unfold outV
  unfold outV at HB8 HO7 HQc HQb7 HMb7 HDb7 HQa7 HMa7 HOc
  dsimp only
  go_wp2_with fail
  refine (seg_busy p pd k21c A8 n8 c8 _ HB8.out).mono ?_
  rintro e w8 ⟨rfl, hw8⟩
  subst hw8
  rw [show (k21c.st != 0) = true by decide]
  go_wp2_with fail
  have hAN := seg_answer p pd k21c 0 A8 n8 c8 _ HB8.out
  refine hAN.mono ?_
  rintro e w9 ⟨_, h9⟩
  obtain ⟨g9, hg9, rfl, hM9, hB9, ho9⟩ := h9 rfl
  clear hAN h9
  have hw : Below w.heap.size w w9 := below_only (HOc.out.trans ho9 (fun _ _ h => h)) hbw2 (fun i (e : i = p) => by omega)
  have hz7 : w7.heap.size ≠ p := by omega
  have qa := blk_only HQa7.out ho9 hne3
  have qm := blk_only HMa7.out ho9 zg3
  have qb := blk_only HQb7.out ho9 (show w5.heap.size ≠ p by omega)
  have qn := blk_only HMb7.out ho9 zg5
  have qc := blk_only HQc.out ho9 hz7
  have s1 : (convert 39 9 (.slice Ad5 5 cd5)).run Tryz.prog w9 = .ok (.string ⟨#[104, 101, 108, 108, 111]⟩) w9 := str_b (w := w9) cd5 rfl (l := [104, 101, 108, 108, 111]) (ownB_only HDb7.out ho9 (fun g h1 _ e => by simp at h1; omega)).sl
  have s2 : (convert 39 9 (.slice A7 2 c7)).run Tryz.prog w9 = .ok (.string ⟨#[97, 98]⟩) w9 := str_b (w := w9) c7 rfl (l := [97, 98]) (ownB_only HO7.out ho9 (fun g h1 _ (e : g = p) => by rw [HZC.out] at h1; omega)).sl
  rw [if_pos rfl] at hM9
  have HBL := hide hw
  have HB9 := hide hB9
  clear hw hB9 ho9
  unfold msV upM at qm
  unfold msV segM at qn
  unfold msV wellM okM k21c at hM9
  obtain ⟨qa_c0, qa_c1, qa_c2, qa_c3, qa_c4⟩ := cel5 qa
  have qa_f := qa.frozen
  obtain ⟨qm_c0, qm_c1, qm_c2, qm_c3, qm_c4, qm_c5, qm_c6, qm_c7, qm_c8, qm_c9, qm_c10, qm_c11, qm_c12, qm_c13⟩ := cel14 qm
  have qm_f := qm.frozen
  obtain ⟨qb_c0, qb_c1, qb_c2, qb_c3, qb_c4⟩ := cel5 qb
  have qb_f := qb.frozen
  obtain ⟨qn_c0, qn_c1, qn_c2, qn_c3, qn_c4, qn_c5, qn_c6, qn_c7, qn_c8, qn_c9, qn_c10, qn_c11, qn_c12, qn_c13⟩ := cel14 qn
  have qn_f := qn.frozen
  obtain ⟨qc_c0, qc_c1, qc_c2, qc_c3, qc_c4⟩ := cel5 qc
  have qc_f := qc.frozen
  obtain ⟨hM9_c0, hM9_c1, hM9_c2, hM9_c3, hM9_c4, hM9_c5, hM9_c6, hM9_c7, hM9_c8, hM9_c9, hM9_c10, hM9_c11, hM9_c12, hM9_c13⟩ := cel14 hM9
  have hM9_f := hM9.frozen
  go_wp2_with fail
  refine (seg_busy p pd (segIdle k21c) A8 n8 c8 _ HB9.out).mono ?_
  rintro e w10 ⟨rfl, hw10⟩
  subst hw10
  rw [show ((segIdle k21c).st != 0) = false by decide]
  go_wp2_with fail
  go_ret
  exact (⟨rfl, HBL.out⟩ : TrueB w _ _)
end Go.Proofs.YtimdmhhgomfijaaGreat

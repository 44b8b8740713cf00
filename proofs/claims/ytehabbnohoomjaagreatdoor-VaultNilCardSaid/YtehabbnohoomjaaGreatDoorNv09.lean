/- Package fault: each, Depth, Has. -/
import Derived.Test.YtehabbnohoomjaaGreatDoorNv08
import Derived.Test.YtehabbnohoomjaaGreatDoorNv03
import Derived.Test.YtehabbnohoomjaaGreatDoorNv01
namespace Go.Proofs.YtehabbnohoomjaaGreatDoor
section
set_option linter.unusedVariables false
set_option linter.unusedSimpArgs false
set_option linter.unnecessarySimpa false
open Go.RowKit Go.Extern.Stop Go.Stop Go.Extern
set_option maxRecDepth 20000
set_option maxHeartbeats 8000000

theorem dep_one (c g : Nat) (n : Nat) (w : World) (hB : Blk w g 3 #[.int .i64 (n : Nat)]) (hn : n ≤ 1000000) :
    Calls Tryz.prog 129 #[.int .u32 (c : Nat), .pointer (some ⟨g, 0, none⟩)] w fun e w' => e = .returned (.tuple #[]) ∧ Blk w' g 3 #[.int .i64 ((n + 1 : Nat) : Int)] ∧ Only (fun k => k = g) w w' := by
  have c0 := hB.cell 0 (u := .int .i64 (n : Nat)) rfl
  have f0 := hB.frozen 0
  have HB := hide hB
  have HO := hide (Only.set (fun k => k = g) (Only.refl _ w) (p := g) (i := 0) rfl (.int .i64 ((n : Int) + 1)))
  clear hB
  go_enter Tryz.func129, Tryz.ntmps129
  go_wp2_with fail
  go_end0
  refine ⟨rfl, ?_, HO.out⟩
  rw [show (((n + 1 : Nat)) : Int) = (n : Int) + 1 by omega]
  exact HB.out.set_ 0 _
def anyC (x : Nat) (b : Bool) (cs : List Nat) : Bool := b || cs.any (fun c => decide (c = x))
theorem each_depth (a : Nat → Addr) (M : Nat) (e : FEnd) (cs : List Nat) (v : Value) (g : Nat) (n0 : Nat) (w : World) (hG : GV w a M) (hC : Ch w a e cs v) (hM : M ≤ g) (hB : Blk w g 3 #[.int .i64 (n0 : Nat)]) (hn : n0 = 0) (hl : cs.length ≤ 1000) :
    Calls Tryz.prog 128 #[.agg #[v], .func (.func 129) #[] #[.pointer (some ⟨g, 0, none⟩)]] w fun e' w' => e' = .returned (.tuple #[]) ∧ Blk w' g 3 #[.int .i64 (cs.length : Nat)] ∧ Only (fun k => k = g) w w' := by
  obtain ⟨tt, xv, rfl⟩ := ch_iface hC
  obtain ⟨f, hf⟩ := ch_len w a e
  have HF := hide hf
  have hb := below_alloc (below_alloc (Below.refl w.heap.size w) (.cells #[.iface tt xv] 145)) (.cells #[.pointer none] 183)
  have kk := blk_two w 145 183 #[.iface tt xv] #[.pointer none]
  obtain ⟨b, hbb⟩ : ∃ b, b = w.heap.size + 1 := ⟨_, rfl⟩
  have HBB := hide hbb
  rw [← hbb] at kk
  have zg := hB.lt
  have hgb : ¬ g = b := by omega
  have HG := hide hG
  have HC := hide hC
  have HM := hide hM
  have HB0 := hide hB
  have HB1 := hide (hB.below hb hB.lt)
  have HK := hide kk.2
  have HO := hide (Only.of_below (F := fun k => k = g) hb)
  have HN := hide (And.intro hn hl)
  clear hf hG hC hM hB hb kk hbb hn hl
  go_enter Tryz.func128, Tryz.ntmps128
  go_wp2_with fail
  rw [← HBB.out]
  go_loopw [5] (fun u wr => ∃ ds l k, Hid (Ch w a e ds u) ∧ Hid (Only (fun k => k = g) w wr) ∧ Hid (Blk wr b 183 #[l]) ∧ Hid (Blk wr g 3 #[.int .i64 (k : Nat)]) ∧ Hid (k + ds.length = cs.length)) (fun u _ => f u)
  case atStart => exact ⟨cs, _, n0, HC, HO, HK, HB1, hide (by rw [HN.out.1]; omega)⟩
  case round =>
    obtain ⟨ds, l, k, HCr, HOr, HL, HBr, HRr⟩ := hrel
    have HGr := hide (HG.out.only HOr.out (fun k hk => by have := HM.out; omega))
    cases ds with
    | nil =>
      obtain rfl : k = cs.length := by have := HRr.out; simpa using this
      have hcr := HCr.out
      cases e with
      | sent n =>
        have hv : u5 = _ := hcr
        subst hv
        have HAS := hide (eAs_str_l (a n) b wr HGr.out.et)
        clear hcr
        go_wp2_with fail
        refine HAS.out.mono ?_
        rintro e' w2 ⟨rfl, hb2⟩
        have HW := hide (And.intro (HBr.out.below hb2 HBr.out.lt) (HOr.out.step hb2))
        clear hb2
        go_wp2_with fail
        go_end0
        exact ⟨rfl, HW.out.1, HW.out.2⟩
      | txt t =>
        obtain ⟨p, hv, hp⟩ := hcr
        subst hv
        have HAS := hide (eAs_wrd_l ⟨p, 0, none⟩ b wr HGr.out.et)
        clear hp
        go_wp2_with fail
        refine HAS.out.mono ?_
        rintro e' w2 ⟨rfl, hb2⟩
        have HW := hide (And.intro (HBr.out.below hb2 HBr.out.lt) (HOr.out.step hb2))
        clear hb2
        go_wp2_with fail
        go_end0
        exact ⟨rfl, HW.out.1, HW.out.2⟩
    | cons c ds =>
      obtain ⟨p, u, hv, hp, hU⟩ := HCr.out
      subst hv
      have hzp := hp.lt
      have hpg : ¬ p = g := by
        intro e'
        have h1 := HB0.out
        rw [← e'] at h1
        have h2 := h1.symm.trans hp
        injection h2 with h2
        injection h2 with _ h2
        exact absurd h2 (by decide)
      have hpb : ¬ p = b := by have := HBB.out; omega
      have hpr : Blk wr p 187 #[.int .u32 (c : Nat), u] := (HOr.out.block p hzp hpg).trans hp
      have HAS := hide (eAs_link p b l wr HL.out HGr.out.et)
      have HPR := hide hpr
      have HU := hide hU
      have HMS : Hid (f u < f (.iface 183 (.pointer (some ⟨p, 0, none⟩)))) := hide (by rw [HF.out _ _ hU, HF.out _ _ HCr.out]; simp)
      obtain ⟨t2, x2, rfl⟩ := ch_iface hU
      clear hp hU hpr
      go_wp2_with fail
      refine HAS.out.mono ?_
      rintro e' w2 ⟨rfl, hL2, hO2⟩
      have hp2 : Blk w2 p 187 #[.int .u32 (c : Nat), .iface t2 x2] := (hO2.block p HPR.out.lt hpb).trans HPR.out
      have hg2 : Blk w2 g 3 #[.int .i64 (k : Nat)] := (hO2.block g HBr.out.lt hgb).trans HBr.out
      have hO02 : Only (fun k => k = g) w w2 := HOr.out.trans hO2 (fun i hi h => by have := HBB.out; omega)
      have l0 := hL2.cell 0 (u := .pointer (some ⟨p, 0, none⟩)) rfl
      have p0 := hp2.cell 0 (u := .int .u32 (c : Nat)) rfl
      have HCL := hide (dep_one c g k w2 hg2 (by have h1 := HRr.out; have h2 := HN.out.2; rw [List.length_cons] at h1; omega))
      have HP2 := hide hp2
      have HL2 := hide hL2
      have HO02 := hide hO02
      clear hL2 hO2 hp2 hg2 hO02
      go_wp2_with fail
      refine HCL.out.mono ?_
      rintro e' w3 ⟨rfl, hg3, hO3⟩
      have hp3 : Blk w3 p 187 #[.int .u32 (c : Nat), .iface t2 x2] := (hO3.block p HP2.out.lt hpg).trans HP2.out
      have hL3 : Blk w3 b 183 #[.pointer (some ⟨p, 0, none⟩)] := (hO3.block b HL2.out.lt (fun e' => hgb e'.symm)).trans HL2.out
      have l3 := hL3.cell 0 (u := .pointer (some ⟨p, 0, none⟩)) rfl
      have p3 := hp3.cell 1 (u := .iface t2 x2) rfl
      have HL3 := hide hL3
      have HG3 := hide hg3
      have HO3 := hide (HO02.out.trans hO3 (fun _ _ h => h))
      clear hg3 hO3 hp3 hL3 l0 p0
      go_wp2_with fail
      go_roundw
      case rel => exact ⟨ds, _, k + 1, HU, HO3, HL3, HG3, hide (by have h1 := HRr.out; rw [List.length_cons] at h1; omega)⟩
      case measure => exact HMS.out
end
end Go.Proofs.YtehabbnohoomjaaGreatDoor
namespace Go.Proofs.YtehabbnohoomjaaGreatDoor
section
set_option linter.unusedVariables false
set_option linter.unusedSimpArgs false
set_option linter.unnecessarySimpa false
open Go.RowKit Go.Extern.Stop Go.Stop Go.Extern
set_option maxRecDepth 20000
set_option maxHeartbeats 8000000

theorem each_nil (F : Value) (w : World) : Calls Tryz.prog 128 #[.agg #[.nilIface], F] w fun e w' => e = .returned (.tuple #[]) ∧ Below w.heap.size w w' := by
  have HB := hide (below_alloc (below_alloc (Below.refl w.heap.size w) (.cells #[.nilIface] 145)) (.cells #[.pointer none] 183))
  go_enter Tryz.func128, Tryz.ntmps128
  go_wp2_with fail
  refine wp_loop_rounds 1 ?_
  rw [rounds_succ]
  go_wp2_with fail
  go_end0
  exact ⟨rfl, HB.out⟩
theorem fa_Depth (a : Nat → Addr) (M : Nat) (e : FEnd) (cs : List Nat) (v : Value) (w : World) (hG : GV w a M) (hC : Ch w a e cs v) (hM : M ≤ w.heap.size) (hl : cs.length ≤ 1000) :
    Calls Tryz.prog 90 #[.agg #[v]] w fun e' w' => e' = .returned (.int .i64 (cs.length : Nat)) ∧ Below w.heap.size w w' := by
  have hb := below_alloc (below_alloc (Below.refl w.heap.size w) (.cells #[v] 145)) (.cells #[.int .i64 0] 3)
  have kk := blk_two w 145 3 #[v] #[.int .i64 0]
  have HE := hide (each_depth a M e cs v (w.heap.size + 1) 0 _ (hG.below hb) (hC.below hb) (by omega) kk.2 rfl hl)
  have HB := hide hb
  obtain ⟨n, hn⟩ : ∃ n, n = cs.length := ⟨_, rfl⟩
  rw [← hn] at HE ⊢
  obtain ⟨tt, x, rfl⟩ := ch_iface hC
  clear hG hC hb kk hn hl
  go_enter Tryz.func90, Tryz.ntmps90
  go_wp2_with fail
  refine HE.out.mono ?_
  rintro e' w2 ⟨rfl, hg, hO⟩
  have g0 := hg.cell 0 (u := .int .i64 (n : Nat)) rfl
  have HB2 := hide (below_only hO HB.out (fun i hi => by omega))
  clear hg hO
  go_wp2_with fail
  go_ret
  exact ⟨rfl, HB2.out⟩
theorem fa_Depth0 (w : World) : Calls Tryz.prog 90 #[.agg #[.nilIface]] w fun e w' => e = .returned (.int .i64 0) ∧ Below w.heap.size w w' := by
  have hb := below_alloc (below_alloc (Below.refl w.heap.size w) (.cells #[.nilIface] 145)) (.cells #[.int .i64 0] 3)
  have kk := blk_two w 145 3 #[.nilIface] #[.int .i64 0]
  have HK := hide kk.2
  have HB := hide hb
  clear hb kk
  go_enter Tryz.func90, Tryz.ntmps90
  go_wp2_with fail
  refine (each_nil _ _).mono ?_
  rintro e' w2 ⟨rfl, hb2⟩
  have g0 := (HK.out.below hb2 (by simp)).cell 0 (u := .int .i64 0) rfl
  have HB2 := hide (below_step hb2 HB.out)
  clear hb2
  go_wp2_with fail
  go_ret
  exact ⟨rfl, HB2.out⟩
end
end Go.Proofs.YtehabbnohoomjaaGreatDoor
namespace Go.Proofs.YtehabbnohoomjaaGreatDoor
section
set_option linter.unusedVariables false
set_option linter.unusedSimpArgs false
set_option linter.unnecessarySimpa false
section
open Go.RowKit

theorem there_any (n : Int) (w : World) : Calls Tryz.prog 150 #[.int .i64 n] w fun e w' => e = .returned (.bool (decide (1 ≤ n) && decide (n ≤ 8))) ∧ w = w' := by
  by_cases h1 : 1 ≤ n
  · by_cases h2 : n ≤ 8
    · go_enter Tryz.func150, Tryz.ntmps150
      go_wp2
      go_ret
      exact ⟨by simp [h1, h2], rfl⟩
    · go_enter Tryz.func150, Tryz.ntmps150
      go_wp2
      go_ret
      exact ⟨by simp [h1, h2], rfl⟩
  · go_enter Tryz.func150, Tryz.ntmps150
    go_wp2
    go_ret
    exact ⟨by simp; omega, rfl⟩

set_option maxHeartbeats 400000 in
theorem get_ok (A : Option Addr) (cap : Nat) (l : List UInt8) (at_ wd : Int) (w : World)
    (hl : l.length ≤ cap) (hcap : l.length ≤ 4611686018427387904) (ha0 : 0 ≤ at_) (ha : at_ + wd ≤ l.length) (h1 : 1 ≤ wd) (h8 : wd ≤ 8) (hc : Sl w A (l.map bv)) :
    Calls Tryz.prog 122 #[.slice A l.length cap, .int .i64 at_, .int .i64 wd] w fun e w' =>
      e = .returned (.tuple #[.int .u64 (leN ((l.drop at_.toNat).take wd.toNat)), .int .i64 0]) ∧ w = w' := by
  have g1 : (decide (1 ≤ (wd : Int)) && decide ((wd : Int) ≤ 8)) = true := by simp; omega
  go_enter Tryz.func122, Tryz.ntmps122
  go_wp2_with (go_at_call 150; refine (there_any _ _).mono ?_; rintro e w' ⟨rfl, rfl⟩)
  go_loop [8, 9, 32] (fun n _ i => ∃ k : Nat, k ≤ wd ∧ i = .int .i64 k ∧ n = .int .u64 (leN ((l.drop at_.toNat).take k))) (fun _ _ i => wd.toNat - (intOf i).toNat)
  case atStart => exact ⟨0, by omega, rfl, rfl⟩
  case round =>
    obtain ⟨k, hk, rfl, rfl⟩ := hrel
    by_cases hlt : (k : Int) < wd
    · obtain ⟨ad, rfl, hcell⟩ := hc.byte (j := at_.toNat + k) (by omega)
      have e1 : (at_ + k).toNat = at_.toNat + k := by omega
      go_wp2_with fail
      go_round
      case rel =>
        have hd : k < (l.drop at_.toNat).length := by simp; omega
        have hlt' := leN_lt ((l.drop at_.toNat).take k)
        rw [List.length_take, Nat.min_eq_left (Nat.le_of_lt hd)] at hlt'
        refine ⟨k + 1, by omega, by go_num, ?_⟩
        rw [or_step _ _ _ hlt' (UInt8.toNat_lt _) (by omega), leN_take_succ _ _ hd]
        simp
      case measure => simp [intOf]; omega
    · go_wp2
      go_ret2
      have : k = wd.toNat := by omega
      subst this
      exact ⟨rfl, rfl⟩

theorem there_yes (n : Int) (w : World) (h1 : 1 ≤ n) (h2 : n ≤ 8) : Calls Tryz.prog 150 #[.int .i64 n] w fun e w' => e = .returned (.bool true) ∧ w = w' :=
  (there_any n w).mono fun _ _ ⟨he, hw⟩ => ⟨by rw [he]; simp [h1, h2], hw⟩
theorem two_pow (wd : Int) : (2 : Int) ^ (8 * wd).toNat = ((256 ^ wd.toNat : Nat) : Int) := by
  have : (8 * wd).toNat = 8 * wd.toNat := by omega
  rw [this, ← pow256_two]
  push_cast
  rfl

/-- the byte that Put lays at place k: the walk's spelling -/
theorem put_byte (x k : Nat) : Value.int IntKind.u8 ((x : Int) / 2 ^ (8 * k) % 256) = bv (UInt8.ofNat (x / 256 ^ k)) := by
  have : ((x : Int) / 2 ^ (8 * k)) = ((x / 256 ^ k : Nat) : Int) := by
    rw [← pow256_two]; push_cast; rfl
  rw [this]
  simp only [bv, UInt8.toNat_ofNat']
  congr 1

set_option maxRecDepth 20000 in
set_option maxHeartbeats 400000 in
theorem put_ok (A : Option Addr) (c : Nat) (l : List UInt8) (wd : Int) (x : Nat) (w : World) (h1 : 1 ≤ wd) (h8 : wd ≤ 8) (hx : x < 256 ^ wd.toNat) (hl : l.length ≤ 35184372088832)
    (hs : Sl w A (l.map bv)) :
    Calls Tryz.prog 159 #[.slice A l.length c, .int .i64 wd, .int .u64 x] w fun e w' => ∃ A' n' c', e = .returned (.tuple #[.slice A' n' c', .int .i64 0]) ∧
      OwnB w' w.heap.size A' n' c' (l ++ leB wd.toNat x) ∧ Below w.heap.size w w' := by
  have ht : wd < 8 → ((x : Int) / 2 ^ (8 * wd).toNat != 0) = false := by
    intro _
    rw [two_pow]
    have : x / 256 ^ wd.toNat = 0 := Nat.div_eq_of_lt hx
    simp only [bne_eq_false_iff_eq]
    exact_mod_cast this
  clear hx
  go_enter Tryz.func159, Tryz.ntmps159
  go_wp2_with (first
    | (go_at_call 150; refine (there_yes _ _ h1 (by omega)).mono ?_; rintro e w' ⟨rfl, rfl⟩)
    | (at_make; refine mk_b _ rfl _ _ rfl _ _ _ _ l.length (l.length + wd.toNat) rfl rfl rfl (by omega) (by omega) (by omega) w.heap.size rfl ?_; intro w1 hown1 _ hb1)
    | (with_reducible refine cpy_b _ rfl (.tmp 32) (.tmp 33) rfl w.heap.size _ _ _ rfl hown1 _ _ _ l rfl rfl (hs.below hb1) hb1.size (l ++ leB 0 x) (by simp [leB]) ?_; intro w2 hO2 _ hb2))
  all_goals
    have hb := hb1.trans hb2
    clear hown1 hb1 hb2 ht
    go_loopw [8, 9, 36] (fun v _ i wr => ∃ k n A c, k ≤ wd.toNat ∧ i = .int .i64 (k : Nat) ∧ v = .slice A n c ∧ OwnB wr w.heap.size A n c (l ++ leB k x) ∧ Below w.heap.size w wr) (fun _ _ i _ => wd.toNat - (intOf i).toNat)
    case atStart => exact ⟨0, _, _, _, by omega, rfl, rfl, hO2, hb⟩
    case round =>
      obtain ⟨k, n, A, c, hk, rfl, rfl, hO, hbr⟩ := hrel
      clear hO2 hb
      have hn' : n ≤ 35184372088840 := by rw [hO.hn]; simp [leB_length]; omega
      by_cases hlt : (k : Int) < wd
      · go_wp2_with (first
          | (at_builtin; refine app_b _ rfl (.tmp 39) (.tmp 46) rfl w.heap.size _ _ _ _ rfl (hO.alloc _) _ _ _ [UInt8.ofNat (x / 256 ^ k)] rfl rfl (by rw [put_byte]; exact Sl.one _ _ _) (by omega) (by have := hbr.size; simp; omega) (n + 1) rfl ?_; intro A3 c3 w3 hown3 _ _ hb3))
        go_roundw
        case rel => exact ⟨k + 1, _, _, _, by omega, by go_num, rfl, by rw [leB_snoc, ← List.append_assoc]; exact hown3, (hbr.alloc hbr.size _).trans hb3⟩
        case measure => simp [intOf]; omega
      · go_wp2
        go_ret2
        have hk2 : k = wd.toNat := by omega
        subst hk2
        exact ⟨_, _, _, rfl, hO, hbr⟩
theorem put_ok' (A : Option Addr) (n c : Nat) (l : List UInt8) (wd : Int) (x : Nat) (w : World) (hn : n = l.length) (h1 : 1 ≤ wd) (h8 : wd ≤ 8) (hx : x < 256 ^ wd.toNat) (hl : n ≤ 35184372088832)
    (hs : Sl w A (l.map bv)) :
    Calls Tryz.prog 159 #[.slice A n c, .int .i64 wd, .int .u64 x] w fun e w' => ∃ A' n' c', e = .returned (.tuple #[.slice A' n' c', .int .i64 0]) ∧
      OwnB w' w.heap.size A' n' c' (l ++ leB wd.toNat x) ∧ Below w.heap.size w w' := by
  subst hn
  exact put_ok A c l wd x w h1 h8 hx hl hs
theorem get_ok' (A : Option Addr) (n cap : Nat) (l : List UInt8) (at_ wd : Int) (w : World) (hn : n = l.length)
    (hl : n ≤ cap) (hcap : n ≤ 4611686018427387904) (ha0 : 0 ≤ at_) (ha : at_ + wd ≤ n) (h1 : 1 ≤ wd) (h8 : wd ≤ 8) (hc : Sl w A (l.map bv)) :
    Calls Tryz.prog 122 #[.slice A n cap, .int .i64 at_, .int .i64 wd] w fun e w' =>
      e = .returned (.tuple #[.int .u64 (leN ((l.drop at_.toNat).take wd.toNat)), .int .i64 0]) ∧ w = w' := by
  subst hn
  exact get_ok A cap l at_ wd w hl hcap ha0 ha h1 h8 hc
end
section
open Go.RowKit

end
section
open Go.RowKit

end
end
end Go.Proofs.YtehabbnohoomjaaGreatDoor
namespace Go.Proofs.YtehabbnohoomjaaGreatDoor
section
set_option linter.unusedVariables false
set_option linter.unusedSimpArgs false
set_option linter.unnecessarySimpa false

def poly : Nat := 3988292384
def crcBit (r b : Nat) : Nat := if r % 2 = b then r / 2 else (r / 2) ^^^ poly
def crcBits (r c : Nat) : Nat → Nat
  | 0 => r
  | k + 1 => crcBit (crcBits r c k) (c / 2 ^ k % 2)
def crcL (r : Nat) (l : List UInt8) : Nat := l.foldl (fun r c => crcBits r c.toNat 8) r
/-- r fits in a uint32 (a name, so that the numeral does not stand in the walk's context) -/
def U32 (r : Nat) : Prop := r < 4294967296
def crcOn (s : Nat) (l : List UInt8) : Nat := 4294967295 - crcL (4294967295 - s) l
theorem poly_lt : U32 poly := by unfold U32 poly; omega
theorem U32.xor {a b : Nat} (ha : U32 a) (hb : U32 b) : U32 (a ^^^ b) := Nat.xor_lt_two_pow (n := 32) ha hb
theorem U32.half {a : Nat} (ha : U32 a) : U32 (a / 2) := by unfold U32 at *; omega
theorem crcBit_lt {r : Nat} (h : U32 r) (b : Nat) : U32 (crcBit r b) := by
  unfold crcBit
  split
  · exact h.half
  · exact h.half.xor poly_lt
theorem crcBits_lt {r : Nat} (h : U32 r) (c k : Nat) : U32 (crcBits r c k) := by
  induction k with
  | zero => exact h
  | succ k ih => exact crcBit_lt ih _
theorem crcL_lt {r : Nat} (h : U32 r) (l : List UInt8) : U32 (crcL r l) := by
  induction l generalizing r with
  | nil => exact h
  | cons c l ih => exact ih (crcBits_lt h _ _)
theorem crcL_snoc (r : Nat) (l : List UInt8) (c : UInt8) : crcL r (l ++ [c]) = crcBits (crcL r l) c.toNat 8 := by simp [crcL]
theorem crcL_take_succ (r : Nat) (l : List UInt8) (k : Nat) (h : k < l.length) : crcL r (l.take (k + 1)) = crcBits (crcL r (l.take k)) (l[k]).toNat 8 := by
  rw [List.take_succ_eq_append_getElem h, crcL_snoc]
theorem crcOn_lt (s : Nat) (l : List UInt8) : U32 (crcOn s l) := by unfold crcOn U32; omega
theorem U32.comp (s : Nat) : U32 (4294967295 - s) := by unfold U32; omega
end
end Go.Proofs.YtehabbnohoomjaaGreatDoor

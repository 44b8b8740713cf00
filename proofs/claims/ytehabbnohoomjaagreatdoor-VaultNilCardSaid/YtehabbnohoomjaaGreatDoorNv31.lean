/- Package vault: keep. -/
import Derived.Test.YtehabbnohoomjaaGreatDoorNv29
import Derived.Test.YtehabbnohoomjaaGreatDoorNv30
namespace Go.Proofs.YtehabbnohoomjaaGreatDoor
section
set_option linter.unusedVariables false
set_option linter.unusedSimpArgs false
set_option linter.unnecessarySimpa false
open Go.RowKit Go.Extern.Stop Go.Stop Go.Extern
set_option maxRecDepth 20000
set_option maxHeartbeats 8000000

def KeepR (pv : Nat) (xs xl : Value) (odd off : Bool) (Fj : Nat → Prop) (pj : Nat) (q : FP) (A : Option Addr) (n c : Nat) (J : JS) (S : FS) (kd : Int) (l : List SV) (w : World) (e : Ending) (w' : World) : Prop :=
  ∃ R ds', WrP J S kd l R ∧ e = .returned (.int .u32 (codeV R.2.2 : Nat)) ∧ Blk w' pv 90 (vauC (.pointer (some ⟨pj, 0, none⟩)) (if R.2.2 = 0 then xl else xs) (if R.2.2 = 0 then false else odd) (off || decide (R.2.2 = 7))) ∧
    JD w' (fun g => Fj g ∨ w.heap.size ≤ g) pj q.p A n c R.1 ds' ∧ FD w' q R.2.1 ∧ Only (fun g => Fj g ∨ q.F g ∨ g = pv) w w'
section
variable {Fj : Nat → Prop} {pj n c : Nat} {A : Option Addr} {J : JS} {ds : List (Option Addr × Nat)} {q : FP} {S : FS}
theorem va_keep (a : Nat → Addr) (M : Nat) (pv : Nat) (xs : Value) (odd off : Bool) (kd : Int) (As : Option Addr) (ns cs : Nat) (l : List SV) (w : World) (hG : GV w a M) (hM : M ≤ w.heap.size) (hMv : M ≤ pv)
    (hV : Blk w pv 90 (vauC (.pointer (some ⟨pj, 0, none⟩)) xs odd off)) (hD : JD w Fj pj q.p A n c J ds) (hS : FD w q S) (hdj : ∀ g, Fj g → ¬ q.F g) (hok : RunJ J S) (hops : S.ops + 2000 < 4611686018427387904)
    (hFw : ∀ g, Fj g ∨ q.F g → g < w.heap.size ∧ M ≤ g ∧ g ≠ pv) (hn : ns = l.length) (hc : ns ≤ cs) (hl : ns ≤ 1000) (hL : SlV w As l) (hf : fitsV l) :
    Calls Tryz.prog 49 #[.pointer (some ⟨pv, 0, none⟩), .int .i64 kd, .slice As ns cs] w (KeepR pv xs (.slice As ns cs) odd off Fj pj q A n c J S kd l w) := by
  have kk := blk_two w 34 27 #[.pointer (some ⟨pv, 0, none⟩)] #[.slice As ns cs]
  have hb0 := below_alloc (below_alloc (Below.refl w.heap.size w) (.cells #[.pointer (some ⟨pv, 0, none⟩)] 34)) (.cells #[.slice As ns cs] 27)
  have hsz : ((w.alloc (.cells #[.pointer (some ⟨pv, 0, none⟩)] 34)).alloc (.cells #[.slice As ns cs] 27)).heap.size = w.heap.size + 2 := by show ((w.heap.push _).push _).size = _; simp
  obtain ⟨W0, hW0⟩ : ∃ W, W = (w.alloc (.cells #[.pointer (some ⟨pv, 0, none⟩)] 34)).alloc (.cells #[.slice As ns cs] 27) := ⟨_, rfl⟩
  obtain ⟨P1, hP1⟩ : ∃ P, P = w.heap.size := ⟨_, rfl⟩
  obtain ⟨P2, hP2⟩ : ∃ P, P = w.heap.size + 1 := ⟨_, rfl⟩
  rw [← hW0] at kk hb0 hsz
  rw [← hP2, ← hP1] at kk
  have HK := hide kk
  have HB0 := hide hb0
  have HW0 := hide hW0
  have HP := hide (And.intro hP1 hP2)
  have hpv := hV.lt
  have v0 := (hV.below hb0 hV.lt).cell 0 (u := .pointer (some ⟨pj, 0, none⟩)) rfl
  have HWR := hide (va_write a M pv kd As ns cs l W0 (hG.below hb0) (Nat.le_trans hM hb0.size) v0 (hD.below hb0) (hS.below hb0) hdj hok hops (fun g hg => ⟨Nat.lt_of_lt_of_le (hFw g hg).1 hb0.size, (hFw g hg).2.1⟩) hn hc hl (hL.below hb0) hf)
  have HG := hide (And.intro hG (And.intro hM hMv))
  have HV := hide hV
  have HFW := hide hFw
  have HPV := hide hpv
  have HSZ := hide hsz
  obtain ⟨R0, hR0⟩ : ∃ R0, R0 = KeepR pv xs (.slice As ns cs) odd off Fj pj q A n c J S kd l w := ⟨_, rfl⟩
  rw [← hR0]
  have HR := hide hR0
  have c1 := HK.out.1.cell 0 (u := .pointer (some ⟨pv, 0, none⟩)) rfl
  have c2 := HK.out.2.cell 0 (u := .slice As ns cs) rfl
  clear kk hb0 hW0 hP1 hP2 hG hM hMv hV hD hS hdj hok hops hFw hn hc hl hL hf hR0 hpv v0 hsz
  go_enter Tryz.func49, Tryz.ntmps49
  go_wp2_with fail
  rw [← HW0.out, ← HP.out.1, show P1 + 1 = P2 by rw [HP.out.2, HP.out.1]]
  refine HWR.out.mono ?_
  rintro e w1 ⟨R, ds', u, hW, rfl, hu, hJ, hF, hO⟩
  have hbox : ∀ g, P1 ≤ g → ¬ (Fj g ∨ q.F g) := fun g hg h => by have := (HFW.out g h).1; have := HP.out.1; omega
  have hO' : Only (fun g => Fj g ∨ q.F g) w w1 := (Only.of_below HB0.out).trans hO (fun _ _ h => h)
  have k1 : Blk w1 P1 34 #[.pointer (some ⟨pv, 0, none⟩)] := (hO.block P1 HK.out.1.lt (hbox P1 (Nat.le_refl _))).trans HK.out.1
  have k2 : Blk w1 P2 27 #[.slice As ns cs] := (hO.block P2 HK.out.2.lt (hbox P2 (by have := HP.out.1; have := HP.out.2; omega))).trans HK.out.2
  have kv : Blk w1 pv 90 (vauC (.pointer (some ⟨pj, 0, none⟩)) xs odd off) := (hO'.block pv HPV.out (fun h => (HFW.out pv h).2.2 rfl)).trans HV.out
  have HE := hide (va_end a M pv P2 P1 (.pointer (some ⟨pj, 0, none⟩)) xs odd off As ns cs R.2.2 u w1 (HG.out.1.only hO' (fun g h => (HFW.out g h).2.1)) (Nat.le_trans HG.out.2.1 hO'.size) HG.out.2.2 hu kv k2 k1)
  have HX := hide (And.intro hW (And.intro hJ (And.intro hF hO')))
  have HS0 := hide HB0.out.size
  clear hW hu hJ hF hO hO' hbox kv k1 k2 c1 c2 HWR HK
  go_wp2_with fail
  refine HE.out.mono ?_
  rintro e w2 ⟨rfl, hB2, ho2⟩
  go_wp2_with fail
  rw [HR.out]
  refine ⟨R, ds', HX.out.1, rfl, hB2, ?_, ?_, ?_⟩
  · have h1 := HX.out.2.1.only ho2 (fun g hg e => by
      have h3 := HPV.out
      rcases hg with h | h
      · exact (HFW.out g (.inl h)).2.2 e
      · have h4 := HS0.out
        omega)
    exact h1.mono (fun g _ h => h.imp id (fun h => Nat.le_trans HS0.out h))
  · exact HX.out.2.2.1.only ho2 (fun g hg e => (HFW.out g (.inr hg)).2.2 e)
  · exact (HX.out.2.2.2.mono (fun g _ h => h.elim .inl (fun h => .inr (.inl h)))).trans ho2 (fun g _ h => .inr (.inr h))
end
end
end Go.Proofs.YtehabbnohoomjaaGreatDoor

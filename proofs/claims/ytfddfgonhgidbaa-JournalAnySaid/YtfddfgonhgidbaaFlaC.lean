/- Package flash: do over an erasing, Erase. -/
import Derived.Test.YtfddfgonhgidbaaFlaB
namespace Go.Proofs.Ytfddfgonhgidbaa
set_option linter.unusedVariables false
set_option linter.unusedSimpArgs false
set_option linter.unnecessarySimpa false
open Go.RowKit
set_option maxRecDepth 20000
set_option maxHeartbeats 2000000

theorem blk_setL {w : World} {g : Nat} {t : TypeId} {l : List Value} (h : Blk w g t l.toArray) (i : Nat) (v : Value) : Blk (w.setCell ⟨g, i, none⟩ v) g t (l.set i v).toArray := by
  have := h.set_ i v
  rwa [List.setIfInBounds_toArray] at this
theorem only_F {q : FP} {w w' : World} {G : Nat → Prop} (h : Only G w w') (hG : ∀ g, G g → q.F g) : Only q.F w w' := h.mono (fun g _ hg => hG g hg)
/-- an erasing's operation -/
def doE (S : FS) (i : Nat) : FS × Int :=
  if S.ahead = 0 then ({ S with b := put S.b (1024 * i) (List.replicate (S.mask % 1025) 255), ahead := -1, off := true }, 7)
  else ({ S with b := put S.b (1024 * i) (List.replicate 1024 255), ahead := decA S.ahead, ops := S.ops + 1 }, 0)
def DoR (q : FP) (r : FS × Int) (w : World) (e : Ending) (w' : World) : Prop := e = .returned (.int .i64 r.2) ∧ FD w' q r.1 ∧ Only q.F w w'
theorem do_erase (q : FP) (S : FS) (i : Nat) (w : World) (hD : FD w q S) (hi : i < S.wear.length) (hops : S.ops < 4611686018427387904) :
    Calls Try.prog 75 #[.pointer (some ⟨q.p, 0, none⟩), .int .i64 (i : Nat), .func (.func 76) #[.pointer (some ⟨q.p, 0, none⟩)] #[], .func (.func 77) #[.pointer (some ⟨q.p, 0, none⟩)] #[]] w (DoR q (doE S i) w) := by
  have HD := hide hD
  have HI := hide hi
  obtain ⟨⟨c0, c1, c2, c3, c4, c5, c6⟩, hfz⟩ := hD.c
  have f4 := hfz 4
  have f6 := hfz 6
  have ha2 := hD.fit.ah2
  have ha1 := hD.fit.ah1
  obtain ⟨ah, hah⟩ : ∃ a, a = S.ahead := ⟨_, rfl⟩
  rw [← hah] at c4 ha1 ha2
  have HF := hide hD.fit
  clear hD hi hfz
  by_cases h0 : ah = 0
  · subst h0
    have HE : Hid (doE S i = ({ S with b := put S.b (1024 * i) (List.replicate (S.mask % 1025) 255), ahead := -1, off := true }, 7)) := hide (by unfold doE; rw [if_pos hah.symm])
    rw [HE.out]
    clear hah
    go_enter Try.func75, Try.ntmps75
    go_wp2_with fail
    refine (fl_begin q S i w HD.out HI.out).mono ?_
    rintro e w1 ⟨rfl, h1, h2⟩
    obtain ⟨⟨d0, d1, d2, d3, d4, d5, d6⟩, hfz⟩ := h1.c
    have g4 := hfz 4
    have g3 := hfz 3
    have HH := hide (And.intro h1 h2)
    clear h1 h2 hfz c0 c1 c2 c3 c4 c5 c6
    go_wp2_with fail
    go_ret
    refine ⟨rfl, ?_, ?_⟩
    · exact FD.reblk HH.out.1 (only2 _ _ _ _) (blk_setL (blk_setL HH.out.1.blk 4 _) 3 _) rfl rfl (fit_of HH.out.1.fit rfl rfl rfl rfl (.inr (.inr rfl)))
    · exact Only.set _ (Only.set _ (only_F HH.out.2 (fun g e => .inr (.inl e))) (.inl rfl) _) (.inl rfl) _
  · have HE : Hid (doE S i = ({ S with b := put S.b (1024 * i) (List.replicate 1024 255), ahead := decA ah, ops := S.ops + 1 }, 0)) := hide (by unfold doE; rw [if_neg (by rw [← hah]; exact h0), hah])
    rw [HE.out]
    have HA := hide hah
    clear hah
    by_cases hp : 0 < ah
    · have HDA := hide (show decA ah = ah - 1 by unfold decA; rw [if_pos hp])
      rw [HDA.out]
      go_enter Try.func75, Try.ntmps75
      go_wp2_with fail
      have h1 : FD ((w.setCell ⟨q.p, 4, none⟩ (.int .i64 (ah - 1))).setCell ⟨q.p, 6, none⟩ (.int .i64 ((S.ops : Int) + 1))) q { S with ahead := ah - 1, ops := S.ops + 1 } := FD.reblk HD.out (only2 _ _ _ _) (blk_setL (blk_setL HD.out.blk 4 _) 6 _) rfl rfl (fit_of HF.out rfl rfl rfl rfl (.inr (.inl (by rw [← HA.out, HDA.out]))))
      have HW : Hid (Only (fun g => g = q.p) w ((w.setCell ⟨q.p, 4, none⟩ (.int .i64 (ah - 1))).setCell ⟨q.p, 6, none⟩ (.int .i64 ((S.ops : Int) + 1)))) := hide (only2 _ _ _ _)
      have HC := hide (fl_erase q _ i _ h1 HI.out)
      clear h1 c0 c1 c2 c3 c4 c5 c6
      go_wp2_with fail
      refine HC.out.mono ?_
      rintro e w1 ⟨rfl, h1, h2⟩
      have HH := hide (And.intro h1 h2)
      clear h1 h2
      go_wp2_with fail
      go_ret
      exact ⟨rfl, HH.out.1, (only_F HW.out (fun g e => .inl e)).trans (only_F HH.out.2 (fun g e => .inr (.inl e))) (fun _ _ h => h)⟩
    · have HDA := hide (show decA ah = ah by unfold decA; rw [if_neg hp])
      rw [HDA.out]
      go_enter Try.func75, Try.ntmps75
      go_wp2_with fail
      have h1 : FD (w.setCell ⟨q.p, 6, none⟩ (.int .i64 ((S.ops : Int) + 1))) q { S with ahead := ah, ops := S.ops + 1 } := by
        have := HA.out
        subst this
        exact FD.reblk HD.out (only1 _ _) (blk_setL HD.out.blk 6 _) rfl rfl (fit_of HF.out rfl rfl rfl rfl (.inl rfl))
      have HW : Hid (Only (fun g => g = q.p) w (w.setCell ⟨q.p, 6, none⟩ (.int .i64 ((S.ops : Int) + 1)))) := hide (only1 _ _)
      have HC := hide (fl_erase q _ i _ h1 HI.out)
      clear h1 c0 c1 c2 c3 c4 c5 c6
      go_wp2_with fail
      refine HC.out.mono ?_
      rintro e w1 ⟨rfl, h1, h2⟩
      have HH := hide (And.intro h1 h2)
      clear h1 h2
      go_wp2_with fail
      go_ret
      exact ⟨rfl, HH.out.1, (only_F HW.out (fun g e => .inl e)).trans (only_F HH.out.2 (fun g e => .inr (.inl e))) (fun _ _ h => h)⟩
/-- Erase -/
def eraseA (S : FS) (i : Nat) : FS × Int := if S.most ≤ (S.wear.getD i 0 : Nat) then (S, 10) else eraseF S i
theorem eraseF_do (S : FS) (i : Nat) : eraseF S i = doE { S with wear := S.wear.set i (S.wear.getD i 0 + 1) } i := by
  unfold eraseF doE
  simp only []
theorem fl_Erase (q : FP) (S : FS) (i : Nat) (w : World) (hD : FD w q S) (hi : i < S.wear.length) (hoff : S.off = false) (hops : S.ops < 4611686018427387904) :
    Calls Try.prog 39 #[.pointer (some ⟨q.p, 0, none⟩), .int .i64 (i : Nat)] w (DoR q (eraseA S i) w) := by
  have HD := hide hD
  have HI := hide hi
  obtain ⟨⟨c0, c1, c2, c3, c4, c5, c6⟩, hfz⟩ := hD.c
  rw [hoff] at c3
  obtain ⟨cw, fw⟩ := hD.wcell hi
  obtain ⟨x, hx⟩ : ∃ x, x = S.wear.getD i 0 := ⟨_, rfl⟩
  obtain ⟨most, hmo⟩ : ∃ m, m = S.most := ⟨_, rfl⟩
  obtain ⟨nw, hnw⟩ : ∃ m, m = S.wear.length := ⟨_, rfl⟩
  have m2 := hD.fit.m2
  have h8 := hD.fit.wl8
  rw [← hnw] at c1 hi h8
  rw [← hx] at cw
  rw [← hmo] at c2 m2
  have i1 : (0 : Int) ≤ (i : Int) := by omega
  have i2 : (i : Int) < (nw : Int) := by omega
  have zp := HD.out.blk.lt
  have zw := HD.out.gw_lt
  have HX := hide hx
  have HM := hide hmo
  clear hD hfz hoff hx hmo hnw
  by_cases hle : most ≤ (x : Int)
  · have HE : Hid (eraseA S i = (S, 10)) := hide (by unfold eraseA; rw [if_pos (by rw [← HX.out, ← HM.out]; exact hle)])
    rw [HE.out]
    go_enter Try.func39, Try.ntmps39
    go_wp2_with fail
    go_quiet (fail)
    go_wp2_with fail
    go_ret
    exact ⟨rfl, HD.out.below (below_drewN (Below.refl _ _) _), Only.of_below (below_drewN (Below.refl _ _) _)⟩
  · have HE : Hid (eraseA S i = doE { S with wear := S.wear.set i (x + 1) } i) := hide (by unfold eraseA; rw [if_neg (by rw [← HX.out, ← HM.out]; exact hle), eraseF_do, HX.out])
    rw [HE.out]
    have hlt : (x : Int) < most := by omega
    have HLT := hide hlt
    go_enter Try.func39, Try.ntmps39
    go_wp2_with fail
    go_quiet (fail)
    go_wp2_with fail
    have h1 := fun nq => (HD.out.below (below_drewN (Below.refl w.heap.size w) nq)).setW i (x + 1) (by rw [← HM.out]; have := HLT.out; omega)
    rw [show (((x + 1 : Nat) : Int)) = (x : Int) + 1 by omega] at h1
    have HW : Hid (∀ nq, Only (fun g => g = q.gw) w ((w.drewN nq).setCell ⟨q.gw, i, none⟩ (.int .i64 ((x : Int) + 1)))) := hide (fun nq => Only.set (fun g => g = q.gw) (Only.of_below (below_drewN (Below.refl _ _) _)) rfl _)
    have HC := hide (fun nq => do_erase q _ i _ (h1 nq) (by simp only [List.length_set]; exact HI.out) hops)
    clear h1 c0 c1 c2 c3 c4 c5 c6 cw fw
    go_wp2_with fail
    refine (HC.out _).mono ?_
    rintro e w1 ⟨rfl, h1, h2⟩
    have HH := hide (And.intro h1 h2)
    clear h1 h2
    go_wp2_with fail
    go_ret
    exact ⟨rfl, HH.out.1, (only_F (HW.out _) (fun g e => .inr (.inr e))).trans HH.out.2 (fun _ _ h => h)⟩
end Go.Proofs.Ytfddfgonhgidbaa

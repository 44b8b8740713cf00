/- Plain laws on values and bytes: what was laid down is read as it was, and back. -/
import Derived.Test.YtehabbnohoomjaaGreatDoorC24
import Derived.Test.YtehabbnohoomjaaGreatDoorC42
import Derived.Test.YtehabbnohoomjaaGreatDoorC41
namespace Go.Proofs.YtehabbnohoomjaaGreatDoor
section
set_option linter.unusedVariables false
set_option linter.unusedSimpArgs false
set_option linter.unnecessarySimpa false
open Go.RowKit
set_option maxRecDepth 20000

theorem vbytes_form (ix sub : Nat) (data : List UInt8) (R : List UInt8) : vbytes ⟨ix, sub, data⟩ ++ R =
    UInt8.ofNat ix :: UInt8.ofNat (ix / 256) :: UInt8.ofNat sub :: UInt8.ofNat data.length :: UInt8.ofNat (data.length / 256) :: (data ++ R) := by
  simp [vbytes, leB]
theorem leN2 (x : Nat) (h : x ≤ 65535) : leN [UInt8.ofNat x, UInt8.ofNat (x / 256)] = x := by
  have := leN_leB 2 x
  simp only [leB] at this
  rw [this]
  omega
theorem oneS_vbytes (v : SV) (R : List UInt8) (h1 : 1 ≤ v.ix) (h2 : v.ix ≤ 65535) (h3 : 0 ≤ v.sub) (h4 : v.sub ≤ 255) (h5 : v.data.length ≤ 65535) : oneS (vbytes v ++ R) = (v, R, 0) := by
  obtain ⟨ix, sub, data⟩ := v
  simp only [] at h1 h2 h3 h4 h5
  obtain ⟨ix, rfl⟩ := Int.eq_ofNat_of_zero_le (show 0 ≤ ix by omega)
  obtain ⟨sub, rfl⟩ := Int.eq_ofNat_of_zero_le h3
  rw [vbytes_form]
  have e1 : leN [UInt8.ofNat ix, UInt8.ofNat (ix / 256)] = ix := leN2 ix (by omega)
  have e2 : leN [UInt8.ofNat data.length, UInt8.ofNat (data.length / 256)] = data.length := leN2 _ h5
  have e3 : (UInt8.ofNat sub).toNat = sub := by simp only [UInt8.toNat_ofNat']; omega
  have ht : thereB ix sub = true := by simp [thereB]; omega
  unfold oneS
  simp only [List.length_cons, List.drop_succ_cons, List.drop_zero, List.take_succ_cons, List.take_zero, e1, e2, List.getD_cons_succ, List.getD_cons_zero, e3, ht]
  rw [if_neg (by omega), if_neg (by simp)]
  simp

theorem chkV_ahead {L : List SV} {k : Nat} {v u : SV} (hv : L[k + 1]? = some v) (hu : L[k]? = some u) (h : chkV L (k + 1) = 0) : aheadB u.ix u.sub v.ix v.sub = true := by
  have ht := chkV_there hv h
  cases ha : aheadB u.ix u.sub v.ix v.sub with
  | true => rfl
  | false =>
    have := chkV_16 (k := k + 1) hv (by simpa using hu) (by omega) (by simp [thereB]; omega) ha
    rw [this] at h
    cases h
theorem lastV_snoc (P : List SV) (u : SV) : lastV (P ++ [u]) = u := by simp [lastV]

theorem parseF_back (S : List SV) : ∀ (P : List SV) (f : Nat), (∀ j, j < (P ++ S).length → chkV (P ++ S) j = 0) → (∀ v ∈ S, v.data.length ≤ 65535) → (S.flatMap vbytes).length ≤ f →
    parseF (f + 1) P (S.flatMap vbytes) = (P ++ S, 0) := by
  induction S with
  | nil => intro P f _ _ _; simp [parseF_nil]
  | cons v S ih =>
    intro P f hc hd hf
    have hv : (P ++ v :: S)[P.length]? = some v := by simp
    obtain ⟨t1, t2, t3, t4⟩ := chkV_there hv (hc P.length (by simp))
    have ho := oneS_vbytes v (S.flatMap vbytes) t1 t2 t3 t4 (hd v (by simp))
    have hl := vbytes_length v
    simp only [List.flatMap_cons] at hf ⊢
    rw [List.length_append] at hf
    have hne : vbytes v ++ S.flatMap vbytes ≠ [] := by
      intro h
      have := congrArg List.length h
      rw [List.length_append, hl] at this
      simp at this
    obtain ⟨f, rfl⟩ : ∃ f', f = f' + 1 := ⟨f - 1, by omega⟩
    rw [parseF_step (f + 1) P _ v (S.flatMap vbytes) hne ho ?_]
    · rw [ih (P ++ [v]) f (by simpa using hc) (fun u hu => hd u (by simp [hu])) (by omega)]
      simp
    · rcases P.eq_nil_or_concat with h | ⟨P', u, h⟩
      · exact .inl h
      · right
        rw [List.concat_eq_append] at h
        subst h
        rw [lastV_snoc]
        exact chkV_ahead (L := P' ++ [u] ++ v :: S) (k := P'.length) (by simp) (by simp) (by have := hc (P'.length + 1) (by simp); exact this)

theorem mem_le {L : List SV} {v : SV} (h : v ∈ L) : v.data.length + 5 ≤ (L.flatMap vbytes).length := by
  induction L with
  | nil => simp at h
  | cons u L ih =>
    have := vbytes_length u
    simp only [List.flatMap_cons, List.length_append]
    rcases List.mem_cons.1 h with rfl | h
    · omega
    · have := ih h; omega
theorem flat_ge (L : List SV) : L.length ≤ (L.flatMap vbytes).length := by
  induction L with
  | nil => simp
  | cons u L ih => have := vbytes_length u; simp only [List.flatMap_cons, List.length_append, List.length_cons]; omega
theorem build_sizes {L : List SV} {l : List UInt8} (h : BuildR L l 0) : L.length ≤ 960 ∧ ∀ v ∈ L, v.data.length ≤ 960 := by
  rcases h with ⟨h, _⟩ | ⟨ha, ⟨_, _, h⟩ | ⟨h1, h2, _⟩⟩
  · exact absurd rfl h
  · cases h
  · exact ⟨Nat.le_trans (flat_ge L) h1, fun v hv => by have := mem_le hv; omega⟩
theorem build_parse {L : List SV} {b : List UInt8} (h : BuildR L b 0) : parseS b = (L, 0) ∧ b.length ≤ 960 := by
  rcases h with ⟨h, _⟩ | ⟨ha, ⟨_, _, h⟩ | ⟨h1, h2, _⟩⟩
  · exact absurd rfl h
  · cases h
  · subst h2
    refine ⟨?_, h1⟩
    rw [parseS, if_neg (by omega)]
    have := parseF_back L [] (L.flatMap vbytes).length (by simpa using ha) (fun v hv => by have := mem_le hv; omega) (Nat.le_refl _)
    simpa using this

theorem oneS_inv (l : List UInt8) (v : SV) (rest : List UInt8) (h : oneS l = (v, rest, 0)) : l = vbytes v ++ rest ∧ thereB v.ix v.sub = true := by
  unfold oneS at h
  split at h
  · injection h with _ h; injection h with _ h; cases h
  · rename_i h5
    split at h
    · injection h with _ h; injection h with _ h; cases h
    · rename_i hb
      split at h
      · injection h with _ h; injection h with _ h; cases h
      · rename_i ht
        injection h with hv h
        injection h with hr _
        obtain ⟨a0, a1, s, m0, m1, t, rfl⟩ : ∃ a0 a1 s m0 m1 t, l = a0 :: a1 :: s :: m0 :: m1 :: t := by
          match l, h5 with
          | a0 :: a1 :: s :: m0 :: m1 :: t, _ => exact ⟨a0, a1, s, m0, m1, t, rfl⟩
          | [], h => simp at h
          | [_], h => simp at h
          | [_, _], h => simp at h
          | [_, _, _], h => simp at h
          | [_, _, _, _], h => simp at h
        simp only [List.length_cons, List.drop_succ_cons, List.drop_zero, List.take_succ_cons, List.take_zero, List.getD_cons_succ, List.getD_cons_zero] at hb ht hv hr
        subst hv
        refine ⟨?_, by simpa using ht⟩
        have hlen : (List.take (leN [m0, m1]) t).length = leN [m0, m1] := by rw [List.length_take]; omega
        have e1 := leB_leN [a0, a1]
        have e2 := leB_leN [m0, m1]
        simp only [List.length_cons, List.length_nil] at e1 e2
        have e3 : leB 1 s.toNat = [s] := by have := leB_leN [s]; simpa [leN] using this
        simp only [vbytes, Int.toNat_natCast, hlen]
        rw [e1, e2, e3, ← hr]
        simp
theorem parseF_inv (f : Nat) : ∀ (P : List SV) (l : List UInt8) (L : List SV), l.length ≤ f → parseF (f + 1) P l = (L, 0) → (∀ j, j < P.length → chkV P j = 0) →
    ∃ S, L = P ++ S ∧ l = S.flatMap vbytes ∧ ∀ j, j < L.length → chkV L j = 0 := by
  induction f with
  | zero =>
    intro P l L hl h hP
    obtain rfl : l = [] := List.eq_nil_of_length_eq_zero (by omega)
    rw [parseF_nil] at h
    injection h with h
    subst h
    exact ⟨[], by simp, rfl, hP⟩
  | succ f ih =>
    intro P l L hl h hP
    by_cases hne : l = []
    · subst hne
      rw [parseF_nil] at h
      injection h with h
      subst h
      exact ⟨[], by simp, rfl, hP⟩
    · obtain ⟨v, rest, er, ho⟩ : ∃ v rest er, oneS l = (v, rest, er) := ⟨_, _, _, rfl⟩
      by_cases her : er = 0
      · subst her
        obtain ⟨hl2, ht⟩ := oneS_inv l v rest ho
        by_cases hah : P = [] ∨ aheadB (lastV P).ix (lastV P).sub v.ix v.sub = true
        · rw [parseF_step _ _ _ _ _ hne ho hah] at h
          have hvl := vbytes_length v
          obtain ⟨S, rfl, hS, hc⟩ := ih (P ++ [v]) rest L (by rw [hl2, List.length_append] at hl; omega) h (by
            intro j hj
            simp only [List.length_append, List.length_cons, List.length_nil] at hj
            rcases Nat.lt_succ_iff_lt_or_eq.1 hj with hj | hj
            · have e : chkV (P ++ [v]) j = chkV P j := by
                unfold chkV
                simp only [List.getD_eq_getElem?_getD]
                rw [List.getElem?_append_left hj, List.getElem?_append_left (by omega)]
              rw [e]
              exact hP j hj
            · subst hj
              unfold chkV
              simp only [List.getD_eq_getElem?_getD]
              have e0 : (P ++ [v])[P.length]? = some v := by simp
              rw [e0]
              simp only [Option.getD_some, ht]
              rw [if_neg (by simp)]
              rcases hah with hp | hp
              · subst hp
                simp
              · rw [if_neg]
                rintro ⟨h1, h2⟩
                have e1 : (P ++ [v])[P.length - 1]? = P[P.length - 1]? := List.getElem?_append_left (by omega)
                rw [e1] at h2
                unfold lastV at hp
                rw [List.getD_eq_getElem?_getD, h2] at hp
                cases hp)
          exact ⟨v :: S, by simp, by rw [hl2, hS]; simp, hc⟩
        · have h1 : P ≠ [] := fun hp => hah (.inl hp)
          have h2 : aheadB (lastV P).ix (lastV P).sub v.ix v.sub = false := by
            cases hx : aheadB (lastV P).ix (lastV P).sub v.ix v.sub with
            | true => exact absurd (.inr hx) hah
            | false => rfl
          rw [parseF_ord _ _ _ _ _ hne ho h1 h2] at h
          injection h with _ h
          cases h
      · rw [parseF_err _ _ _ _ _ _ hne ho her] at h
        injection h with _ h
        exact absurd h her
theorem parse_build {L : List SV} {l : List UInt8} (h : parseS l = (L, 0)) : BuildR L l 0 ∧ l.length ≤ 960 := by
  unfold parseS at h
  split at h
  · injection h with _ h; cases h
  · rename_i hl
    obtain ⟨S, rfl, hS, hc⟩ := parseF_inv l.length [] l L (Nat.le_refl _) h (by intro j hj; simp at hj)
    exact ⟨.inr ⟨hc, .inr ⟨by rw [← hS]; omega, hS, rfl⟩⟩, by omega⟩
theorem parseF_nil_of (f : Nat) : ∀ (P : List SV) (l : List UInt8) (L : List SV) (e : Int), parseF f P l = (L, e) → e ≠ 0 → L = [] := by
  induction f with
  | zero => intro P l L e h he; rw [parseF] at h; injection h with h1 h2; exact absurd h2.symm he
  | succ f ih =>
    intro P l L e h he
    rw [parseF] at h
    split at h
    · injection h with _ h2; exact absurd h2.symm he
    · split at h
      · injection h with h1 _; exact h1.symm
      · split at h
        · injection h with h1 _; exact h1.symm
        · exact ih _ _ _ _ h he
theorem parse_sizes {L : List SV} {l : List UInt8} {e : Int} (h : parseS l = (L, e)) : L.length ≤ 960 ∧ ∀ v ∈ L, v.data.length ≤ 960 := by
  by_cases he : e = 0
  · subst he
    exact build_sizes (parse_build h).1
  · have hL : L = [] := by
      unfold parseS at h
      split at h
      · injection h with h1 _; exact h1.symm
      · exact parseF_nil_of _ _ _ _ _ h he
    subst hL
    exact ⟨by simp, by intro v hv; simp at hv⟩
end
end Go.Proofs.YtehabbnohoomjaaGreatDoor
namespace Go.Proofs.YtehabbnohoomjaaGreatDoor
section
set_option linter.unusedVariables false
set_option linter.unusedSimpArgs false
set_option linter.unnecessarySimpa false
open Go.RowKit
set_option maxRecDepth 20000
set_option maxHeartbeats 8000000

/-- what a vault has of its journal's last record, and whether that is odd -/
def recX (L : List Ent) (J : JS) : List SV × Bool :=
  if J.has = true ∧ (recJ J).1 = 1 then
    if (parseS (recJ J).2.2).2 ≠ 0 ∨ checkL L (parseS (recJ J).2.2).1 ≠ 0 then ([], true) else ((parseS (recJ J).2.2).1, false)
  else ([], false)
def OpenGR (L : List Ent) (M : Nat) (q : FP) (S : FS) (w : World) (e : Ending) (w' : World) : Prop :=
  ∃ pv pj A n c dj As ns cs dx, e = .returned (.tuple #[.pointer (some ⟨pv, 0, none⟩), .int .i64 0]) ∧ VD w' M (fun g => w.heap.size ≤ g ∧ g < pv) (fun g => pv < g ∧ g < w'.heap.size) pv pj q A n c dj As ns cs dx (openJ S) S (recX L (openJ S)).1 (recX L (openJ S)).2 false ∧ w.heap.size ≤ pv ∧ Below w.heap.size w w'
section
variable {Fd : Nat → Prop} {pd gl nd cl cv : Nat} {Av : Option Addr} {L : List Ent} {V : List (List UInt8)} {ds es : List (Option Addr × Nat)}
theorem va_open (M : Nat) (q : FP) (S : FS) (w : World) (hD : FD w q S) (hoff : S.off = false) (h3 : 3 ≤ S.wear.length) (hM : M ≤ w.heap.size) (hq : ∀ g, q.F g → g < w.heap.size ∧ M ≤ g)
    (hDB : DB 102 w Fd pd (some ⟨gl, 0, none⟩) nd cl Av cv L V ds es) (hs : SortedE L) (hnd : nd ≤ 1000) :
    Calls Tryz.prog 11 #[.pointer (some ⟨q.p, 0, none⟩), .pointer (some ⟨pd, 0, none⟩)] w (OpenGR L M q S w) := by
  have HO := hide (jo_Open q S w hD hoff h3)
  have HD := hide hD
  have HM := hide hM
  have HQ := hide hq
  have HDB := hide hDB
  have HS := hide hs
  have HND := hide hnd
  obtain ⟨R0, hR0⟩ : ∃ R0, R0 = OpenGR L M q S w := ⟨_, rfl⟩
  rw [← hR0]
  have HR := hide hR0
  obtain ⟨X0, hX0⟩ : ∃ X0, X0 = recX L (openJ S) := ⟨_, rfl⟩
  have HX := hide hX0
  clear hD hoff h3 hM hq hR0 hDB hs hnd hX0
  -- what is owed at the end
  have END : ∀ (w' : World) (pv pj : Nat) (A : Option Addr) (n c : Nat) (dj : List (Option Addr × Nat)) (As : Option Addr) (ns cs : Nat) (dx : List (Option Addr × Nat)) (XX : List SV) (odd : Bool), X0 = (XX, odd) →
      Blk w' pv 90 (vauC (.pointer (some ⟨pj, 0, none⟩)) (.slice As ns cs) odd false) → JD w' (fun g => w.heap.size ≤ g ∧ g < pv) pj q.p A n c (openJ S) dj → OwnSV w' (fun g => pv < g ∧ g < w'.heap.size) As ns cs XX dx →
      ns ≤ 200 → (∀ v ∈ XX, v.data.length ≤ 2000) → w.heap.size ≤ pv → Below w.heap.size w w' → R0 (.returned (.tuple #[.pointer (some ⟨pv, 0, none⟩), .int .i64 0])) w' := by
    intro w' pv pj A n c dj As ns cs dx XX odd hx hB hJ hO h200 hfit hpv hbw
    rw [HR.out]
    have hlt := hB.lt
    have hsz := hbw.size
    refine ⟨pv, pj, A, n, c, dj, As, ns, cs, dx, rfl, ?_, hpv, hbw⟩
    rw [← HX.out, hx]
    refine ⟨hB, hJ, HD.out.below hbw, hO, by have := HM.out; omega, ?_, ?_, ?_, h200, hfit⟩
    · rintro g (h | h)
      · have := HM.out
        exact ⟨by omega, by omega, by omega⟩
      · have := HQ.out g h
        exact ⟨by omega, this.2, by omega⟩
    · intro g h
      have := HM.out
      refine ⟨h.2, by omega, by omega, ?_⟩
      rintro (hx | hx)
      · omega
      · have := HQ.out g hx; omega
    · intro g h hx
      have := HQ.out g hx
      omega
  have HEND := hide END
  clear END
  go_enter Tryz.func11, Tryz.ntmps11
  go_wp2_with fail
  refine HO.out.mono ?_
  rintro e w1 ⟨pj, A, n, c, dj, rfl, hJ, hb⟩
  have k0 := blk_one w1 90 #[.pointer (some ⟨pj, 0, none⟩), .slice none 0 0, .bool false, .bool false]
  have hba := below_alloc (Below.refl w1.heap.size w1) (.cells #[.pointer (some ⟨pj, 0, none⟩), .slice none 0 0, .bool false, .bool false] 90)
  have HB1 := hide hb
  have HJC := hide ((show JD w1 (fun g => w.heap.size ≤ g ∧ g < w1.heap.size) pj q.p A n c (openJ S) dj from hJ.mono (fun g hlt h => ⟨h, hlt⟩)).below hba)
  have HBA := hide (below_step hba hb)
  have HK0 := hide k0
  have HLT := hide (jo_Last _ (hJ.below hba))
  have HX0 : Hid (X0 = if (openJ S).has = true ∧ (recJ (openJ S)).1 = 1 then if (parseS (recJ (openJ S)).2.2).2 ≠ 0 ∨ checkL L (parseS (recJ (openJ S)).2.2).1 ≠ 0 then ([], true) else ((parseS (recJ (openJ S)).2.2).1, false) else ([], false)) := HX
  obtain ⟨RJ, hRJ⟩ : ∃ r, r = recJ (openJ S) := ⟨_, rfl⟩
  obtain ⟨hs, hhs⟩ : ∃ hs, hs = (openJ S).has := ⟨_, rfl⟩
  rw [← hhs, ← hRJ] at HLT HX0
  obtain ⟨kd, m, bs⟩ := RJ
  clear hRJ
  try dsimp only at HLT HX0
  clear hJ hb k0 hba hhs HO
  go_wp2_with fail
  refine HLT.out.mono ?_
  rintro e w2 ⟨A', c', rfl, hO, hb2⟩
  have hba2 := below_alloc (Below.refl w2.heap.size w2) (.cells (rcV kd m A' bs.length c') 92)
  have qr := blk_one w2 92 (rcV kd m A' bs.length c')
  have hb3 := below_step hba2 hb2
  have HB3 := hide (below_step hb3 HBA.out)
  have HJ3 := hide (HJC.out.below hb3)
  have HK3 := hide (HK0.out.below hb3 HK0.out.lt)
  have HO3 := hide (hO.below hba2)
  have hkl := HK0.out.lt
  have HZ := hide (And.intro hb3.size (And.intro HB1.out.size (show w1.heap.size < (w1.alloc (.cells #[.pointer (some ⟨pj, 0, none⟩), .slice none 0 0, .bool false, .bool false] 90)).heap.size from HK0.out.lt)))
  clear hb2 hb3 HLT hba2 hO hkl
  try dsimp only at qr
  unfold rcV at HB3 HJ3 HK3 HZ HO3 qr ⊢
  by_cases hno : hs = true ∧ kd = 1
  · obtain ⟨rfl, rfl⟩ := hno
    have HX1 := hide (HX0.out.trans (if_pos ⟨rfl, rfl⟩))
    clear HX0
    have HQR := hide qr
    obtain ⟨qr_c0, qr_c1, qr_c2⟩ := cel3 qr
    have qr_f := qr.frozen
    clear qr
    go_wp2_with fail
    refine (snap_parse A' bs.length c' bs _ rfl HO3.out.own.le HO3.out.sl).mono ?_
    rintro e w4 ⟨A4, n4, c4, X4, d4, er, rfl, hO4, hP4, hb4⟩
    rw [hP4] at HX1
    dsimp only at HX1
    have HO4 := hide hO4
    have HB4 := hide (below_step hb4 HB3.out)
    have HJ4 := hide (HJ3.out.below hb4)
    have HK4 := hide (HK3.out.below hb4 HK3.out.lt)
    have kc := HK4.out
    obtain ⟨kc_c0, kc_c1, kc_c2, kc_c3⟩ := cel4 kc
    have kc_f := kc.frozen
    have HPS := hide (parse_sizes hP4)
    have HP4 := hide hP4
    have hz4 := hb4.size
    have HZ4 := hide hz4
    clear hO4 hb4 hP4 hz4
    by_cases he : er = 0
    · subst he
      have hbf := built_fits (parse_build HP4.out).1
      have HBF := hide hbf
      have hn4 : n4 ≤ 192 := by rw [HO4.out.hn]; exact hbf.1
      have HN4 := hide hn4
      clear hbf hn4
      go_wp2_with fail
      refine (snap_check A4 n4 c4 X4 _ (HDB.out.below HB4.out) HS.out HND.out HO4.out.hn (by have := HN4.out; omega) HO4.out.slV (fun v hv => by have := HBF.out.2 v hv; omega)).mono ?_
      rintro e w5 ⟨rfl, hb5⟩
      obtain ⟨ck, hck⟩ : ∃ ck, ck = checkL L X4 := ⟨_, rfl⟩
      rw [← hck] at HX1 ⊢
      have hJ5 := HJ4.out.below hb5
      have hK5 := HK4.out.below hb5 HK4.out.lt
      have hO5 := (ownV_sv HO4.out).below hb5
      have HB5 := hide (below_step hb5 HB4.out)
      have HO5 := hide hO5
      have HJ5 := hide hJ5
      have HK5 := hide hK5
      have kd5 := hK5
      have HZ5 := hide hb5.size
      clear kc_c0 kc_c1 kc_c2 kc_c3 kc_f
      obtain ⟨kd5_c0, kd5_c1, kd5_c2, kd5_c3⟩ := cel4 kd5
      have kd5_f := kd5.frozen
      clear hb5 hck hO5 hJ5 hK5
      have hlt0 : w1.heap.size < (w2.alloc (.cells #[.int .i64 1, .int .u32 m, .slice A' bs.length c'] 92)).heap.size := HK3.out.lt
      have HL0 := hide hlt0
      clear hlt0
      by_cases hc0 : ck = 0
      · subst hc0
        go_wp2_with fail
        refine HEND.out _ w1.heap.size pj A n c dj A4 n4 c4 d4 X4 false (HX1.out.trans (if_neg (by simp))) (blk_setL (blk_setL HK5.out 2 (.bool false)) 1 (.slice A4 n4 c4)) (HJ5.out.only (only2 2 1 _ _) (fun g hg e => by omega)) ((HO5.out.keep (fun g hg hlt => (only2 2 1 (.bool false) (.slice A4 n4 c4)).block g hlt (fun e => by have := HL0.out; omega))).mono (fun g hlt hg => ⟨by have := HL0.out; omega, hlt⟩)) (by have := HN4.out; omega) (fun v hv => by have := HBF.out.2 v hv; omega) HZ.out.2.1 (below_set (below_set HB5.out (p := ⟨w1.heap.size, 2, none⟩) HZ.out.2.1 _) (p := ⟨w1.heap.size, 1, none⟩) HZ.out.2.1 _)
      · have hcb : (ck != 0) = true := by simp [hc0]
        go_wp2_with fail
        refine HEND.out _ w1.heap.size pj A n c dj none 0 0 [] [] true (HX1.out.trans (if_pos (.inr hc0))) (blk_setL HK5.out 2 (.bool true)) (HJ5.out.only (only1 2 _) (fun g hg e => by omega)) (OwnF.nil _ _) (by omega) (fun v hv => by cases hv) HZ.out.2.1 (below_set HB5.out (p := ⟨w1.heap.size, 2, none⟩) HZ.out.2.1 _)
    · go_wp2_with fail
      refine HEND.out _ w1.heap.size pj A n c dj none 0 0 [] [] true (HX1.out.trans (if_pos (.inl he))) (blk_setL HK4.out 2 (.bool true)) (HJ4.out.only (only1 2 _) (fun g hg e => by omega)) (OwnF.nil _ _) (by omega) (fun v hv => by cases hv) HZ.out.2.1 (below_set HB4.out (p := ⟨w1.heap.size, 2, none⟩) HZ.out.2.1 _)
  · have HX1 := hide (HX0.out.trans (if_neg hno))
    clear HX0
    have HQR := hide qr
    obtain ⟨qr_c0, qr_c1, qr_c2⟩ := cel3 qr
    have qr_f := qr.frozen
    clear qr
    cases hs
    · clear hno
      go_wp2_with fail
      refine HEND.out _ w1.heap.size pj A n c dj none 0 0 [] [] false HX1.out HK3.out HJ3.out (OwnF.nil _ _) (by omega) (fun v hv => by cases hv) HZ.out.2.1 HB3.out
    · have hkd : (kd == (1 : Int)) = false := by simp; intro h; exact hno ⟨rfl, h⟩
      clear hno
      go_wp2_with fail
      refine HEND.out _ w1.heap.size pj A n c dj none 0 0 [] [] false HX1.out HK3.out HJ3.out (OwnF.nil _ _) (by omega) (fun v hv => by cases hv) HZ.out.2.1 HB3.out
end
end
end Go.Proofs.YtehabbnohoomjaaGreatDoor

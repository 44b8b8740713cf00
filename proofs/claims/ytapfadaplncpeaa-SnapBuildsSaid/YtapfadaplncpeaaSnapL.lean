/- Plain laws on values and bytes: what was laid down is read as it was, and back. -/
import Derived.Test.YtapfadaplncpeaaSnapP
namespace Go.Proofs.Ytapfadaplncpeaa
open Go.RowKit
set_option maxRecDepth 20000

theorem vbytes_form (ix sub : Nat) (data : List UInt8) (R : List UInt8) : vbytes ⟨ix, sub, data⟩ ++ R =
    UInt8.ofNat ix :: UInt8.ofNat (ix / 256) :: UInt8.ofNat sub :: UInt8.ofNat data.length :: UInt8.ofNat (data.length / 256) :: (data ++ R) := by
  simp [vbytes, leB]
theorem leN2 (x : Nat) (h : x ≤ 65535) : leN [UInt8.ofNat x, UInt8.ofNat (x / 256)] = x := by
  have := leN_leB 2 x
  simp only [leB] at this
  rw [this]
  omega
theorem oneS_vbytes (v : SV) (R : List UInt8) (h1 : 1 ≤ v.ix) (h2 : v.ix ≤ 65535) (h3 : 0 ≤ v.sub) (h4 : v.sub ≤ 255) (h5 : v.data.length ≤ 65535) : oneS (vbytes v ++ R) = (v, R, 0) := by
  obtain ⟨ix, sub, data⟩ := v
  simp only [] at h1 h2 h3 h4 h5
  obtain ⟨ix, rfl⟩ := Int.eq_ofNat_of_zero_le (show 0 ≤ ix by omega)
  obtain ⟨sub, rfl⟩ := Int.eq_ofNat_of_zero_le h3
  rw [vbytes_form]
  have e1 : leN [UInt8.ofNat ix, UInt8.ofNat (ix / 256)] = ix := leN2 ix (by omega)
  have e2 : leN [UInt8.ofNat data.length, UInt8.ofNat (data.length / 256)] = data.length := leN2 _ h5
  have e3 : (UInt8.ofNat sub).toNat = sub := by simp only [UInt8.toNat_ofNat']; omega
  have ht : thereB ix sub = true := by simp [thereB]; omega
  unfold oneS
  simp only [List.length_cons, List.drop_succ_cons, List.drop_zero, List.take_succ_cons, List.take_zero, e1, e2, List.getD_cons_succ, List.getD_cons_zero, e3, ht]
  rw [if_neg (by omega), if_neg (by simp)]
  simp

theorem chkV_ahead {L : List SV} {k : Nat} {v u : SV} (hv : L[k + 1]? = some v) (hu : L[k]? = some u) (h : chkV L (k + 1) = 0) : aheadB u.ix u.sub v.ix v.sub = true := by
  have ht := chkV_there hv h
  cases ha : aheadB u.ix u.sub v.ix v.sub with
  | true => rfl
  | false =>
    have := chkV_16 (k := k + 1) hv (by simpa using hu) (by omega) (by simp [thereB]; omega) ha
    rw [this] at h
    cases h
theorem lastV_snoc (P : List SV) (u : SV) : lastV (P ++ [u]) = u := by simp [lastV]

theorem parseF_back (S : List SV) : ∀ (P : List SV) (f : Nat), (∀ j, j < (P ++ S).length → chkV (P ++ S) j = 0) → (∀ v ∈ S, v.data.length ≤ 65535) → (S.flatMap vbytes).length ≤ f →
    parseF (f + 1) P (S.flatMap vbytes) = (P ++ S, 0) := by
  induction S with
  | nil => intro P f _ _ _; simp [parseF_nil]
  | cons v S ih =>
    intro P f hc hd hf
    have hv : (P ++ v :: S)[P.length]? = some v := by simp
    obtain ⟨t1, t2, t3, t4⟩ := chkV_there hv (hc P.length (by simp))
    have ho := oneS_vbytes v (S.flatMap vbytes) t1 t2 t3 t4 (hd v (by simp))
    have hl := vbytes_length v
    simp only [List.flatMap_cons] at hf ⊢
    rw [List.length_append] at hf
    have hne : vbytes v ++ S.flatMap vbytes ≠ [] := by
      intro h
      have := congrArg List.length h
      rw [List.length_append, hl] at this
      simp at this
    obtain ⟨f, rfl⟩ : ∃ f', f = f' + 1 := ⟨f - 1, by omega⟩
    rw [parseF_step (f + 1) P _ v (S.flatMap vbytes) hne ho ?_]
    · rw [ih (P ++ [v]) f (by simpa using hc) (fun u hu => hd u (by simp [hu])) (by omega)]
      simp
    · rcases P.eq_nil_or_concat with h | ⟨P', u, h⟩
      · exact .inl h
      · right
        rw [List.concat_eq_append] at h
        subst h
        rw [lastV_snoc]
        exact chkV_ahead (L := P' ++ [u] ++ v :: S) (k := P'.length) (by simp) (by simp) (by have := hc (P'.length + 1) (by simp); exact this)

theorem mem_le {L : List SV} {v : SV} (h : v ∈ L) : v.data.length + 5 ≤ (L.flatMap vbytes).length := by
  induction L with
  | nil => simp at h
  | cons u L ih =>
    have := vbytes_length u
    simp only [List.flatMap_cons, List.length_append]
    rcases List.mem_cons.1 h with rfl | h
    · omega
    · have := ih h; omega
theorem flat_ge (L : List SV) : L.length ≤ (L.flatMap vbytes).length := by
  induction L with
  | nil => simp
  | cons u L ih => have := vbytes_length u; simp only [List.flatMap_cons, List.length_append, List.length_cons]; omega
theorem build_sizes {L : List SV} {l : List UInt8} (h : BuildR L l 0) : L.length ≤ 960 ∧ ∀ v ∈ L, v.data.length ≤ 960 := by
  rcases h with ⟨h, _⟩ | ⟨ha, ⟨_, _, h⟩ | ⟨h1, h2, _⟩⟩
  · exact absurd rfl h
  · cases h
  · exact ⟨Nat.le_trans (flat_ge L) h1, fun v hv => by have := mem_le hv; omega⟩
theorem build_parse {L : List SV} {b : List UInt8} (h : BuildR L b 0) : parseS b = (L, 0) ∧ b.length ≤ 960 := by
  rcases h with ⟨h, _⟩ | ⟨ha, ⟨_, _, h⟩ | ⟨h1, h2, _⟩⟩
  · exact absurd rfl h
  · cases h
  · subst h2
    refine ⟨?_, h1⟩
    rw [parseS, if_neg (by omega)]
    have := parseF_back L [] (L.flatMap vbytes).length (by simpa using ha) (fun v hv => by have := mem_le hv; omega) (Nat.le_refl _)
    simpa using this

theorem oneS_inv (l : List UInt8) (v : SV) (rest : List UInt8) (h : oneS l = (v, rest, 0)) : l = vbytes v ++ rest ∧ thereB v.ix v.sub = true := by
  unfold oneS at h
  split at h
  · injection h with _ h; injection h with _ h; cases h
  · rename_i h5
    split at h
    · injection h with _ h; injection h with _ h; cases h
    · rename_i hb
      split at h
      · injection h with _ h; injection h with _ h; cases h
      · rename_i ht
        injection h with hv h
        injection h with hr _
        obtain ⟨a0, a1, s, m0, m1, t, rfl⟩ : ∃ a0 a1 s m0 m1 t, l = a0 :: a1 :: s :: m0 :: m1 :: t := by
          match l, h5 with
          | a0 :: a1 :: s :: m0 :: m1 :: t, _ => exact ⟨a0, a1, s, m0, m1, t, rfl⟩
          | [], h => simp at h
          | [_], h => simp at h
          | [_, _], h => simp at h
          | [_, _, _], h => simp at h
          | [_, _, _, _], h => simp at h
        simp only [List.length_cons, List.drop_succ_cons, List.drop_zero, List.take_succ_cons, List.take_zero, List.getD_cons_succ, List.getD_cons_zero] at hb ht hv hr
        subst hv
        refine ⟨?_, by simpa using ht⟩
        have hlen : (List.take (leN [m0, m1]) t).length = leN [m0, m1] := by rw [List.length_take]; omega
        have e1 := leB_leN [a0, a1]
        have e2 := leB_leN [m0, m1]
        simp only [List.length_cons, List.length_nil] at e1 e2
        have e3 : leB 1 s.toNat = [s] := by have := leB_leN [s]; simpa [leN] using this
        simp only [vbytes, Int.toNat_natCast, hlen]
        rw [e1, e2, e3, ← hr]
        simp
theorem parseF_inv (f : Nat) : ∀ (P : List SV) (l : List UInt8) (L : List SV), l.length ≤ f → parseF (f + 1) P l = (L, 0) → (∀ j, j < P.length → chkV P j = 0) →
    ∃ S, L = P ++ S ∧ l = S.flatMap vbytes ∧ ∀ j, j < L.length → chkV L j = 0 := by
  induction f with
  | zero =>
    intro P l L hl h hP
    obtain rfl : l = [] := List.eq_nil_of_length_eq_zero (by omega)
    rw [parseF_nil] at h
    injection h with h
    subst h
    exact ⟨[], by simp, rfl, hP⟩
  | succ f ih =>
    intro P l L hl h hP
    by_cases hne : l = []
    · subst hne
      rw [parseF_nil] at h
      injection h with h
      subst h
      exact ⟨[], by simp, rfl, hP⟩
    · obtain ⟨v, rest, er, ho⟩ : ∃ v rest er, oneS l = (v, rest, er) := ⟨_, _, _, rfl⟩
      by_cases her : er = 0
      · subst her
        obtain ⟨hl2, ht⟩ := oneS_inv l v rest ho
        by_cases hah : P = [] ∨ aheadB (lastV P).ix (lastV P).sub v.ix v.sub = true
        · rw [parseF_step _ _ _ _ _ hne ho hah] at h
          have hvl := vbytes_length v
          obtain ⟨S, rfl, hS, hc⟩ := ih (P ++ [v]) rest L (by rw [hl2, List.length_append] at hl; omega) h (by
            intro j hj
            simp only [List.length_append, List.length_cons, List.length_nil] at hj
            rcases Nat.lt_succ_iff_lt_or_eq.1 hj with hj | hj
            · have e : chkV (P ++ [v]) j = chkV P j := by
                unfold chkV
                simp only [List.getD_eq_getElem?_getD]
                rw [List.getElem?_append_left hj, List.getElem?_append_left (by omega)]
              rw [e]
              exact hP j hj
            · subst hj
              unfold chkV
              simp only [List.getD_eq_getElem?_getD]
              have e0 : (P ++ [v])[P.length]? = some v := by simp
              rw [e0]
              simp only [Option.getD_some, ht]
              rw [if_neg (by simp)]
              rcases hah with hp | hp
              · subst hp
                simp
              · rw [if_neg]
                rintro ⟨h1, h2⟩
                have e1 : (P ++ [v])[P.length - 1]? = P[P.length - 1]? := List.getElem?_append_left (by omega)
                rw [e1] at h2
                unfold lastV at hp
                rw [List.getD_eq_getElem?_getD, h2] at hp
                cases hp)
          exact ⟨v :: S, by simp, by rw [hl2, hS]; simp, hc⟩
        · have h1 : P ≠ [] := fun hp => hah (.inl hp)
          have h2 : aheadB (lastV P).ix (lastV P).sub v.ix v.sub = false := by
            cases hx : aheadB (lastV P).ix (lastV P).sub v.ix v.sub with
            | true => exact absurd (.inr hx) hah
            | false => rfl
          rw [parseF_ord _ _ _ _ _ hne ho h1 h2] at h
          injection h with _ h
          cases h
      · rw [parseF_err _ _ _ _ _ _ hne ho her] at h
        injection h with _ h
        exact absurd h her
theorem parse_build {L : List SV} {l : List UInt8} (h : parseS l = (L, 0)) : BuildR L l 0 ∧ l.length ≤ 960 := by
  unfold parseS at h
  split at h
  · injection h with _ h; cases h
  · rename_i hl
    obtain ⟨S, rfl, hS, hc⟩ := parseF_inv l.length [] l L (Nat.le_refl _) h (by intro j hj; simp at hj)
    exact ⟨.inr ⟨hc, .inr ⟨by rw [← hS]; omega, hS, rfl⟩⟩, by omega⟩
theorem parseF_nil_of (f : Nat) : ∀ (P : List SV) (l : List UInt8) (L : List SV) (e : Int), parseF f P l = (L, e) → e ≠ 0 → L = [] := by
  induction f with
  | zero => intro P l L e h he; rw [parseF] at h; injection h with h1 h2; exact absurd h2.symm he
  | succ f ih =>
    intro P l L e h he
    rw [parseF] at h
    split at h
    · injection h with _ h2; exact absurd h2.symm he
    · split at h
      · injection h with h1 _; exact h1.symm
      · split at h
        · injection h with h1 _; exact h1.symm
        · exact ih _ _ _ _ h he
theorem parse_sizes {L : List SV} {l : List UInt8} {e : Int} (h : parseS l = (L, e)) : L.length ≤ 960 ∧ ∀ v ∈ L, v.data.length ≤ 960 := by
  by_cases he : e = 0
  · subst he
    exact build_sizes (parse_build h).1
  · have hL : L = [] := by
      unfold parseS at h
      split at h
      · injection h with h1 _; exact h1.symm
      · exact parseF_nil_of _ _ _ _ _ h he
    subst hL
    exact ⟨by simp, by intro v hv; simp at hv⟩
theorem build_len {L : List SV} {b : List UInt8} {e : Int} (h : BuildR L b e) : b.length ≤ 960 := by
  rcases h with ⟨_, h, _⟩ | ⟨_, ⟨_, h, _⟩ | ⟨h1, h2, _⟩⟩
  · subst h; simp
  · subst h; simp
  · subst h2; exact h1
end Go.Proofs.Ytapfadaplncpeaa

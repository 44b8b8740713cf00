/- Package fault: says, Text. -/
import Derived.Test.YtkhbcmkcjnnejaaDoorFltI
namespace Go.Proofs.YtkhbcmkcjnnejaaDoor
set_option linter.unusedVariables false
set_option linter.unusedSimpArgs false
set_option linter.unnecessarySimpa false
open Go.RowKit Go.Extern.Stop Go.Stop Go.Extern
set_option maxRecDepth 20000
set_option maxHeartbeats 8000000
theorem ret_str {a b : ByteArray} (h : a = b) : Ending.returned (.string a) = .returned (.string b) := by rw [h]

theorem fa_more (c : Nat) (w : World) (h0 : ¬ c = 84082688) (h1 : ¬ c = 84148224) (h2 : ¬ c = 84148225) (h3 : ¬ c = 84148226) (h4 : ¬ c = 84148227) (h5 : ¬ c = 84148228) (h6 : ¬ c = 84148229) (h7 : ¬ c = 100728832) (h8 : ¬ c = 100728833) (h9 : ¬ c = 100728834) (h10 : ¬ c = 100794368) (h11 : ¬ c = 100925505) (h12 : ¬ c = 100925506) (h13 : ¬ c = 100925507) (h14 : ¬ c = 100925511) : Calls Tryd.prog 44 #[.int .u32 (c : Nat)] w fun e w' => e = .returned (.string (bs (sayN c))) ∧ w = w' := by
  by_cases h15 : c = 101056512
  · subst h15
    clear h0 h1 h2 h3 h4 h5 h6 h7 h8 h9 h10 h11 h12 h13 h14
    go_enter Tryd.func44, Tryd.ntmps44
    go_wp2_with fail
    go_ret
    exact ⟨rfl, rfl⟩
  have e15 : ((c : Int) == 101056512) = false := by simp; omega
  by_cases h16 : c = 101122064
  · subst h16
    clear h0 h1 h2 h3 h4 h5 h6 h7 h8 h9 h10 h11 h12 h13 h14
    go_enter Tryd.func44, Tryd.ntmps44
    go_wp2_with fail
    go_ret
    exact ⟨rfl, rfl⟩
  have e16 : ((c : Int) == 101122064) = false := by simp; omega
  by_cases h17 : c = 101122066
  · subst h17
    clear h0 h1 h2 h3 h4 h5 h6 h7 h8 h9 h10 h11 h12 h13 h14
    go_enter Tryd.func44, Tryd.ntmps44
    go_wp2_with fail
    go_ret
    exact ⟨rfl, rfl⟩
  have e17 : ((c : Int) == 101122066) = false := by simp; omega
  by_cases h18 : c = 101122067
  · subst h18
    clear h0 h1 h2 h3 h4 h5 h6 h7 h8 h9 h10 h11 h12 h13 h14
    go_enter Tryd.func44, Tryd.ntmps44
    go_wp2_with fail
    go_ret
    exact ⟨rfl, rfl⟩
  have e18 : ((c : Int) == 101122067) = false := by simp; omega
  by_cases h19 : c = 101253137
  · subst h19
    clear h0 h1 h2 h3 h4 h5 h6 h7 h8 h9 h10 h11 h12 h13 h14
    go_enter Tryd.func44, Tryd.ntmps44
    go_wp2_with fail
    go_ret
    exact ⟨rfl, rfl⟩
  have e19 : ((c : Int) == 101253137) = false := by simp; omega
  by_cases h20 : c = 101253168
  · subst h20
    clear h0 h1 h2 h3 h4 h5 h6 h7 h8 h9 h10 h11 h12 h13 h14
    go_enter Tryd.func44, Tryd.ntmps44
    go_wp2_with fail
    go_ret
    exact ⟨rfl, rfl⟩
  have e20 : ((c : Int) == 101253168) = false := by simp; omega
  by_cases h21 : c = 101253169
  · subst h21
    clear h0 h1 h2 h3 h4 h5 h6 h7 h8 h9 h10 h11 h12 h13 h14
    go_enter Tryd.func44, Tryd.ntmps44
    go_wp2_with fail
    go_ret
    exact ⟨rfl, rfl⟩
  have e21 : ((c : Int) == 101253169) = false := by simp; omega
  by_cases h22 : c = 101253170
  · subst h22
    clear h0 h1 h2 h3 h4 h5 h6 h7 h8 h9 h10 h11 h12 h13 h14
    go_enter Tryd.func44, Tryd.ntmps44
    go_wp2_with fail
    go_ret
    exact ⟨rfl, rfl⟩
  have e22 : ((c : Int) == 101253170) = false := by simp; omega
  by_cases h23 : c = 134217728
  · subst h23
    clear h0 h1 h2 h3 h4 h5 h6 h7 h8 h9 h10 h11 h12 h13 h14
    go_enter Tryd.func44, Tryd.ntmps44
    go_wp2_with fail
    go_ret
    exact ⟨rfl, rfl⟩
  have e23 : ((c : Int) == 134217728) = false := by simp; omega
  by_cases h24 : c = 134217760
  · subst h24
    clear h0 h1 h2 h3 h4 h5 h6 h7 h8 h9 h10 h11 h12 h13 h14
    go_enter Tryd.func44, Tryd.ntmps44
    go_wp2_with fail
    go_ret
    exact ⟨rfl, rfl⟩
  have e24 : ((c : Int) == 134217760) = false := by simp; omega
  by_cases h25 : c = 134217761
  · subst h25
    clear h0 h1 h2 h3 h4 h5 h6 h7 h8 h9 h10 h11 h12 h13 h14
    go_enter Tryd.func44, Tryd.ntmps44
    go_wp2_with fail
    go_ret
    exact ⟨rfl, rfl⟩
  have e25 : ((c : Int) == 134217761) = false := by simp; omega
  by_cases h26 : c = 134217762
  · subst h26
    clear h0 h1 h2 h3 h4 h5 h6 h7 h8 h9 h10 h11 h12 h13 h14
    go_enter Tryd.func44, Tryd.ntmps44
    go_wp2_with fail
    go_ret
    exact ⟨rfl, rfl⟩
  have e26 : ((c : Int) == 134217762) = false := by simp; omega
  by_cases h27 : c = 134217764
  · subst h27
    clear h0 h1 h2 h3 h4 h5 h6 h7 h8 h9 h10 h11 h12 h13 h14
    go_enter Tryd.func44, Tryd.ntmps44
    go_wp2_with fail
    go_ret
    exact ⟨rfl, rfl⟩
  have e27 : ((c : Int) == 134217764) = false := by simp; omega
  have HS := hide (say_none c h0 h1 h2 h3 h4 h5 h6 h7 h8 h9 h10 h11 h12 h13 h14 h15 h16 h17 h18 h19 h20 h21 h22 h23 h24 h25 h26 h27)
  clear h0 h1 h2 h3 h4 h5 h6 h7 h8 h9 h10 h11 h12 h13 h14 h15 h16 h17 h18 h19 h20 h21 h22 h23 h24 h25 h26 h27
  go_enter Tryd.func44, Tryd.ntmps44
  go_wp2_with fail
  go_ret
  exact ⟨ret_str (by rw [HS.out]; rfl), rfl⟩
theorem fa_says (c : Nat) (w : World) : Calls Tryd.prog 36 #[.int .u32 (c : Nat)] w fun e w' => e = .returned (.string (bs (sayN c))) ∧ w = w' := by
  by_cases h0 : c = 84082688
  · subst h0
    go_enter Tryd.func36, Tryd.ntmps36
    go_wp2_with fail
    go_ret
    exact ⟨rfl, rfl⟩
  have e0 : ((c : Int) == 84082688) = false := by simp; omega
  by_cases h1 : c = 84148224
  · subst h1
    go_enter Tryd.func36, Tryd.ntmps36
    go_wp2_with fail
    go_ret
    exact ⟨rfl, rfl⟩
  have e1 : ((c : Int) == 84148224) = false := by simp; omega
  by_cases h2 : c = 84148225
  · subst h2
    go_enter Tryd.func36, Tryd.ntmps36
    go_wp2_with fail
    go_ret
    exact ⟨rfl, rfl⟩
  have e2 : ((c : Int) == 84148225) = false := by simp; omega
  by_cases h3 : c = 84148226
  · subst h3
    go_enter Tryd.func36, Tryd.ntmps36
    go_wp2_with fail
    go_ret
    exact ⟨rfl, rfl⟩
  have e3 : ((c : Int) == 84148226) = false := by simp; omega
  by_cases h4 : c = 84148227
  · subst h4
    go_enter Tryd.func36, Tryd.ntmps36
    go_wp2_with fail
    go_ret
    exact ⟨rfl, rfl⟩
  have e4 : ((c : Int) == 84148227) = false := by simp; omega
  by_cases h5 : c = 84148228
  · subst h5
    go_enter Tryd.func36, Tryd.ntmps36
    go_wp2_with fail
    go_ret
    exact ⟨rfl, rfl⟩
  have e5 : ((c : Int) == 84148228) = false := by simp; omega
  by_cases h6 : c = 84148229
  · subst h6
    go_enter Tryd.func36, Tryd.ntmps36
    go_wp2_with fail
    go_ret
    exact ⟨rfl, rfl⟩
  have e6 : ((c : Int) == 84148229) = false := by simp; omega
  by_cases h7 : c = 100728832
  · subst h7
    go_enter Tryd.func36, Tryd.ntmps36
    go_wp2_with fail
    go_ret
    exact ⟨rfl, rfl⟩
  have e7 : ((c : Int) == 100728832) = false := by simp; omega
  by_cases h8 : c = 100728833
  · subst h8
    go_enter Tryd.func36, Tryd.ntmps36
    go_wp2_with fail
    go_ret
    exact ⟨rfl, rfl⟩
  have e8 : ((c : Int) == 100728833) = false := by simp; omega
  by_cases h9 : c = 100728834
  · subst h9
    go_enter Tryd.func36, Tryd.ntmps36
    go_wp2_with fail
    go_ret
    exact ⟨rfl, rfl⟩
  have e9 : ((c : Int) == 100728834) = false := by simp; omega
  by_cases h10 : c = 100794368
  · subst h10
    go_enter Tryd.func36, Tryd.ntmps36
    go_wp2_with fail
    go_ret
    exact ⟨rfl, rfl⟩
  have e10 : ((c : Int) == 100794368) = false := by simp; omega
  by_cases h11 : c = 100925505
  · subst h11
    go_enter Tryd.func36, Tryd.ntmps36
    go_wp2_with fail
    go_ret
    exact ⟨rfl, rfl⟩
  have e11 : ((c : Int) == 100925505) = false := by simp; omega
  by_cases h12 : c = 100925506
  · subst h12
    go_enter Tryd.func36, Tryd.ntmps36
    go_wp2_with fail
    go_ret
    exact ⟨rfl, rfl⟩
  have e12 : ((c : Int) == 100925506) = false := by simp; omega
  by_cases h13 : c = 100925507
  · subst h13
    go_enter Tryd.func36, Tryd.ntmps36
    go_wp2_with fail
    go_ret
    exact ⟨rfl, rfl⟩
  have e13 : ((c : Int) == 100925507) = false := by simp; omega
  by_cases h14 : c = 100925511
  · subst h14
    go_enter Tryd.func36, Tryd.ntmps36
    go_wp2_with fail
    go_ret
    exact ⟨rfl, rfl⟩
  have e14 : ((c : Int) == 100925511) = false := by simp; omega
  have HM := hide (fa_more c w h0 h1 h2 h3 h4 h5 h6 h7 h8 h9 h10 h11 h12 h13 h14)
  obtain ⟨s, hs⟩ : ∃ s, s = bs (sayN c) := ⟨_, rfl⟩
  rw [← hs] at HM ⊢
  clear h0 h1 h2 h3 h4 h5 h6 h7 h8 h9 h10 h11 h12 h13 h14 hs
  go_enter Tryd.func36, Tryd.ntmps36
  go_wp2_with fail
  refine HM.out.mono ?_
  rintro e w1 ⟨rfl, rfl⟩
  go_wp2_with fail
  go_ret
  exact ⟨rfl, rfl⟩
end Go.Proofs.YtkhbcmkcjnnejaaDoor

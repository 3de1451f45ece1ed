/- A hoist does the same upwards and downwards: with position, speed and acceleration turned round, the ride is turned round. For every input. -/
import Derived.Test.YtcebojamjllmjaaHMath
import Derived.Test.YtcebojamjllmjaaPHoistx9
import Derived.Test.YtcebojamjllmjaaPHoistx13
import Derived.Test.YtcebojamjllmjaaDiceH
namespace Go.Proofs.Ytcebojamjllmjaa.Pure
open Go.RowKit Go.Proofs.Ytcebojamjllmjaa.PHoist Go.Proofs.Ytcebojamjllmjaa.PDiceH Go.Proofs.Ytcebojamjllmjaa.HMath Go.Proofs.Ytcebojamjllmjaa.HandH Go.Proofs.YtcebojamjllmjaaW.PrintWords Go.Proofs.YtcebojamjllmjaaW.PrintLast Go.Proofs.YtcebojamjllmjaaW.PrintMore
set_option linter.unusedVariables false

/-- A made hoist: one of a few. -/
def Made (d t b m : Int) : Prop := (d = 500000 ∨ d = 1 ∨ d = 1000 ∨ d = 4000000) ∧ (t = 15000 ∨ t = 1 ∨ t = 20000 ∨ t = 1000) ∧ (b = 1000 ∨ b = 1 ∨ b = 5000 ∨ b = 100) ∧ (m = 10 ∨ m = 0 ∨ m = 20)
theorem made1_ok {L : List Int} {a : Int} (h : DiceOk L a) : ∃ d t b m z, law37_made1.f L a = some (d, t, b, 0, m, z) ∧ DiceOk L z ∧ Made d t b m := by
  obtain ⟨v1, b1, e1, m1, g1⟩ := of_ok h [499999, 0, 999, 3999999] (by simp) (by simp)
  obtain ⟨v2, b2, e2, m2, g2⟩ := of_ok g1 [14999, 0, 19999, 999] (by simp) (by simp)
  obtain ⟨v3, b3, e3, m3, g3⟩ := of_ok g2 [999, 0, 4999, 99] (by simp) (by simp)
  obtain ⟨v4, b4, e4, m4, g4⟩ := of_ok g3 [10, 0, 20] (by simp) (by simp)
  simp only [List.mem_cons, List.not_mem_nil, or_false] at m1 m2 m3 m4
  unfold law37_made1.f
  rw [e1]; simp only [Option.bind_some]
  rw [e2]; simp only [Option.bind_some]
  rw [e3]; simp only [Option.bind_some]
  rw [e4]; simp only [Option.bind_some]
  rw [wId (x := 1 + v1) (by omega) (by omega), wId (x := 1 + v2) (by omega) (by omega), wId (x := 1 + v3) (by omega) (by omega)]
  exact ⟨_, _, _, _, _, rfl, g4, by omega, by omega, by omega, m4⟩
theorem Made.hoist {d t b m c : Int} (h : Made d t b m) (c1 : 0 ≤ c) (c2 : c ≤ t) : HoistOk d t b c m := by
  obtain ⟨h1, h2, h3, h4⟩ := h
  exact ⟨by omega, by omega, by omega, by omega, by omega, by omega, c1, c2, by omega, by omega⟩

theorem clamp_turn (n h : Int) (hh : 0 ≤ h) : clampP (-n) (-h) h = -clampP n (-h) h := by
  unfold clampP mx mn
  (repeat' split) <;> omega
theorem clamp_far (n d : Int) (hd : 0 ≤ d) : clampP (d - n) (-1000) (d + 1000) = d - clampP n (-1000) (d + 1000) := by
  unfold clampP mx mn
  (repeat' split) <;> omega
theorem abs_turn (v : Int) : absP (-v) = absP v := by
  unfold absP mx
  (repeat' split) <;> omega
theorem room_turn (d a v : Int) : roomP d (d - a) (-v) = roomP d a v := by
  unfold roomP
  by_cases h : v > 0
  · rw [if_neg (by omega), if_pos (by omega), if_pos h]
  · by_cases h2 : v < 0
    · rw [if_pos (by omega), if_neg h, if_pos h2, show d - (d - a) = a by omega]
    · rw [if_neg (by omega), if_neg (by omega), if_neg h, if_neg h2]
theorem trip_turn (d t b c m a v : Int) (f : Bool) : tripP d t b c m (d - a) (-v) f = tripP d t b c m a v f := by
  unfold tripP
  rw [abs_turn, room_turn]
  have : decide (0 ≤ d - a ∧ d - a ≤ d) = decide (0 ≤ a ∧ a ≤ d) := by
    by_cases h : 0 ≤ a ∧ a ≤ d
    · rw [decide_eq_true h, decide_eq_true (by omega)]
    · rw [decide_eq_false h, decide_eq_false (by omega)]
  rw [this]
theorem speed_turn (t b v x : Int) (f : Bool) (t0 : 0 ≤ t) (b0 : 0 ≤ b) : speedP t b (-v) (-x) f = -speedP t b v x f := by
  unfold speedP
  split
  · rw [clamp_turn v b b0]; omega
  · rw [clamp_turn x b b0, show -v + -clampP x (-b) b = -(v + clampP x (-b) b) by omega, clamp_turn _ t t0]
theorem at_turn (d a v w : Int) (hd : 0 ≤ d) : atP d (d - a) (-v) (-w) = d - atP d a v w := by
  unfold atP
  rw [show -v + -w = -(v + w) by omega, Int.neg_tdiv, show d - a + -Int.tdiv (v + w) 2 = d - (a + Int.tdiv (v + w) 2) by omega, clamp_far _ d hd]

theorem HoistMirror : law37_HoistMirror.Pure := by
  intro l0 a1 a2 hm hs hw hw1 hw2
  unfold law37_HoistMirror.f made_Light.f made_Roll.f
  simp only [Option.bind_some]
  by_cases hl : (l0.length : Int) ≤ 400
  · rw [if_pos (by simpa using hl)]
    obtain ⟨d, t, b, m, z1, e1, g1, hmade⟩ := made1_ok (DiceOk.zero hl)
    have hq := hmade
    obtain ⟨q1, q2, q3, q4⟩ := hq
    have ht3 : wrap64 (Int.tdiv t 3) = t / 3 := by rw [tdiv_pos (by omega)]; exact wId (by omega) (by omega)
    obtain ⟨c, z2, e2, m2, g2⟩ := of_ok g1 [0, t / 3] (by simp) (by simp)
    simp only [List.mem_cons, List.not_mem_nil, or_false] at m2
    obtain ⟨a, e3, a0, a3⟩ := mod_ok a1 (d + 2001) (by omega) (by omega)
    obtain ⟨v, e4, v0, v1⟩ := mod_ok a2 80001 (by omega) (by omega)
    obtain ⟨f, z3, e5, g3⟩ := one_ok g2 3 (by omega) (by omega)
    obtain ⟨x, z4, e6, x0, x1, g4⟩ := next_ok g3 20001 (by omega) (by omega)
    have hok : HoistOk d t b c m := hmade.hoist (by omega) (by omega)
    have w1 : wrap64 (d + 2001) = d + 2001 := wId (by omega) (by omega)
    have w2 : wrap64 (a - 1000) = a - 1000 := wId (by omega) (by omega)
    have w3 : wrap64 (v - 40000) = v - 40000 := wId (by omega) (by omega)
    have w4 : wrap64 (x - 10000) = x - 10000 := wId (by omega) (by omega)
    have w5 : wrap64 (d - (a - 1000)) = d - (a - 1000) := wId (by omega) (by omega)
    have w6 : wrap64 (-(v - 40000)) = -(v - 40000) := wId (by omega) (by omega)
    have w7 : wrap64 (-(x - 10000)) = -(x - 10000) := wId (by omega) (by omega)
    rw [e1]; simp only [Option.bind_some, ht3]
    rw [e2]; simp only [Option.bind_some, w1]
    rw [e3]; simp only [Option.bind_some]
    rw [e4]; simp only [Option.bind_some]
    rw [e5]; simp only [Option.bind_some]
    rw [e6]; simp only [Option.bind_some, w2, w3, w4, w5, w6, w7]
    rw [tick_val hok ⟨by omega, by omega, by omega, by omega⟩]; simp only [Option.bind_some]
    rw [tick_val hok ⟨by omega, by omega, by omega, by omega⟩]; simp only [Option.bind_some]
    rw [awake_ok]; simp only [Option.bind_some, if_true]
    rw [trip_turn, speed_turn _ _ _ _ _ (by omega) (by omega), at_turn _ _ _ _ (by omega)]
    have hs1 := speedP_in (x - 10000) (tripP d t b c m (a - 1000) (v - 40000) f) (show 1 ≤ t by omega) (show t ≤ 20000 by omega) (show 1 ≤ b by omega) (show b ≤ 5000 by omega) (show -40000 ≤ v - 40000 by omega) (show v - 40000 ≤ 40000 by omega)
    have ha1 := atP_in (a := a - 1000) (v := v - 40000) (w := speedP t b (v - 40000) (x - 10000) (tripP d t b c m (a - 1000) (v - 40000) f)) (show 1 ≤ d by omega)
    rw [if_pos (wId (by omega) (by omega)).symm, if_pos (wId (by omega) (by omega)).symm]
    simp
  · rw [if_neg (by simpa using hl), awake_ok]
    rfl
end Go.Proofs.Ytcebojamjllmjaa.Pure

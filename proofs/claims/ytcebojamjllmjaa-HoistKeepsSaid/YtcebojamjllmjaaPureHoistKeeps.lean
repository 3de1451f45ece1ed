/- A ride whose speed is kept within half of what the limits permit never trips and never leaves the shaft. For every input. -/
import Derived.Test.YtcebojamjllmjaaHMath
import Derived.Test.YtcebojamjllmjaaPHoistx11
import Derived.Test.YtcebojamjllmjaaDiceH
namespace Go.Proofs.Ytcebojamjllmjaa.Pure
open Go.RowKit Go.Proofs.Ytcebojamjllmjaa.PHoist Go.Proofs.Ytcebojamjllmjaa.PDiceH Go.Proofs.Ytcebojamjllmjaa.HMath Go.Proofs.Ytcebojamjllmjaa.Hand Go.Proofs.Ytcebojamjllmjaa.HandH Go.Proofs.YtcebojamjllmjaaW.PrintWords Go.Proofs.YtcebojamjllmjaaW.PrintLast Go.Proofs.YtcebojamjllmjaaW.PrintMore
set_option linter.unusedVariables false

/-- Where the driver's ride can be. -/
def Kept0 (a v : Int) : Prop := 0 ≤ a ∧ a ≤ 500000 ∧ 0 ≤ v ∧ v ≤ 7500 ∧ 8 * v ≤ 500000 - a ∧ 20 * v ≤ 500000 - a + 7500
theorem shaft_ok : HoistOk 500000 15000 1000 300 10 := by unfold HoistOk; omega
theorem kept_limit {a v : Int} (h : Kept0 a v) (hv : 0 < v) : v ≤ limitOf 15000 1000 300 (500000 - a) := by
  obtain ⟨h1, h2, h3, h4, h5, h6⟩ := h
  obtain ⟨x, hx, x0, x1, _, x3⟩ := limit_root (t := 15000) (b := 1000) (room := 500000 - a) (by omega) (by omega) (by omega) (by omega) (by omega)
  unfold limitOf
  rw [if_neg (by omega), hx]
  unfold lesser
  split
  · omega
  · by_cases hlt : x < 15000
    · have k := x3 hlt
      rw [roomR_eq, if_neg (by omega)] at k
      by_cases hs : x + 300 < v
      · have m1 := sq_mono (a := x + 1) (b := v) (by omega) (by omega)
        have m2 := Int.mul_le_mul h4 (Int.le_refl v) h3 (by omega)
        omega
      · omega
    · omega
theorem kept_trip {a v : Int} (h : Kept0 a v) : tripP 500000 15000 1000 300 10 a v false = false := by
  have hh := h
  obtain ⟨h1, h2, h3, h4, h5, h6⟩ := hh
  have hl := limit_bounds (t := 15000) (b := 1000) (c := 300) (room := roomP 500000 a v) (by omega) (by omega) (by omega) (by omega) (by omega) (by omega)
  unfold tripP
  have e1 : absP v = v := by unfold absP mx; rw [if_neg (by omega)]
  have e2 : ¬ (v > limitOf 15000 1000 300 (roomP 500000 a v) * (100 + 10) / 100) := by
    by_cases hv : 0 < v
    · have hr : roomP 500000 a v = 500000 - a := by unfold roomP mx; rw [if_pos hv, if_pos (by omega)]
      have := kept_limit h hv
      rw [hr] at *
      omega
    · omega
  rw [e1, decide_eq_false e2, decide_eq_true (show 0 ≤ a ∧ a ≤ 500000 by omega)]
  rfl
/-- What the driver asks for. -/
def wantP (a : Int) : Int := if 500000 - a > 60000 then mn 7500 ((500000 - a) / 20) else 0
theorem kept_step {a v : Int} (h : Kept0 a v) : Kept0 (atP 500000 a v (speedP 15000 1000 v (wantP a - v) false)) (speedP 15000 1000 v (wantP a - v) false) := by
  obtain ⟨h1, h2, h3, h4, h5, h6⟩ := h
  have hs : ∃ s, speedP 15000 1000 v (wantP a - v) false = s ∧ 0 ≤ s ∧ s ≤ 7500 ∧ (500000 - a > 60000 → 20 * s ≤ 500000 - a ∧ 20 * s ≤ 150000) ∧ (500000 - a ≤ 60000 → s = 0 ∧ v ≤ 1000 ∨ s = v - 1000) := by
    refine ⟨_, rfl, ?_⟩
    unfold speedP wantP clampP mx mn
    simp only [Bool.false_eq_true, if_false]
    by_cases hr : 500000 - a > 60000
    · simp only [hr, if_true]
      (repeat' split) <;> omega
    · simp only [hr, if_false]
      (repeat' split) <;> omega
  obtain ⟨s, hs, s0, s1, s2, s3⟩ := hs
  rw [hs]
  have hq : atP 500000 a v s = a + (v + s) / 2 := by
    unfold atP clampP mx mn
    rw [tdiv_pos (by omega)]
    (repeat' split) <;> omega
  rw [hq]
  refine ⟨by omega, by omega, s0, s1, by omega, by omega⟩

theorem hoistKeeps_loop (d : Nat) : ∀ (k : Nat) (i a v : Int), Kept0 a v → 0 ≤ i → i ≤ 120 → 120 - i = (d : Int) → 3 * d < k →
    law37_HoistKeeps.l0 k i 500000 15000 1000 300 10 a v false = some true := by
  induction d with
  | zero =>
    intro k i a v hk0 i0 i1 hd hk
    obtain ⟨k, rfl⟩ : ∃ m, k = m + 1 := ⟨k - 1, by omega⟩
    simp only [law37_HoistKeeps.l0]
    rw [if_neg (by omega), awake_ok]
    rfl
  | succ d ih =>
    intro k i a v hk0 i0 i1 hd hk
    obtain ⟨k, rfl⟩ : ∃ m, k = m + 1 + 1 + 1 := ⟨k - 3, by omega⟩
    have hh := hk0
    obtain ⟨h1, h2, h3, h4, h5, h6⟩ := hh
    have hst := kept_step hk0
    have htr := kept_trip hk0
    have w1 : wrap64 (500000 - a) = 500000 - a := wId (by omega) (by omega)
    have w2 : wrap64 (Int.tdiv 15000 2) = 7500 := by decide +kernel
    have w3 : wrap64 (Int.tdiv (500000 - a) 20) = (500000 - a) / 20 := by rw [tdiv_pos (by omega)]; exact wId (by omega) (by omega)
    have w4 : wrap64 (i + 1) = i + 1 := wId (by omega) (by omega)
    have next : law37_HoistKeeps.j1 (k + 1 + 1) i (wantP a) 500000 15000 1000 300 10 a v false = some true := by
      have hwb : 0 ≤ wantP a ∧ wantP a ≤ 7500 := by unfold wantP mn; (repeat' split) <;> omega
      have w5 : wrap64 (wantP a - v) = wantP a - v := wId (by omega) (by omega)
      have ht := tick_val shaft_ok (show RideOk 500000 a v from ⟨by omega, by omega, by omega, by omega⟩) false (wantP a - v)
      rw [htr] at ht
      simp only [law37_HoistKeeps.j1]
      rw [w5, ht]; simp only [Option.bind_some, if_true]
      obtain ⟨k1, k2, k3, k4, k5, k6⟩ := hst
      rw [if_neg (by simp), if_neg (by omega), if_neg (by omega)]
      simp only [law37_HoistKeeps.j2]
      rw [if_neg (by simp; omega), w4]
      exact ih _ _ _ _ ⟨k1, k2, k3, k4, k5, k6⟩ (by omega) (by omega) (by omega) (by omega)
    simp only [law37_HoistKeeps.l0]
    rw [if_pos (by omega), w1, w2, w3]
    unfold wantP at next
    by_cases hr : 500000 - a > 60000
    · rw [if_pos hr] at next ⊢
      exact next
    · rw [if_neg hr] at next ⊢
      exact next

theorem HoistKeeps : law37_HoistKeeps.Pure := by
  intro l0 hm hs hw
  obtain ⟨k, hk⟩ : ∃ k : Nat, 400 ≤ k := ⟨400, Nat.le_refl _⟩
  refine ⟨k, ?_⟩
  unfold law37_HoistKeeps.f made_Light.f made_Roll.f law37_shaft.f
  simp only [Option.bind_some]
  by_cases hl : (l0.length : Int) ≤ 400
  · rw [if_pos (by simpa using hl)]
    obtain ⟨v1, b1, e1, h10, h11, g1⟩ := next_ok (DiceOk.zero hl) 500001 (by omega) (by omega)
    rw [wId (x := 500000 + 1) (by omega) (by omega), show (500000 : Int) + 1 = 500001 from rfl, e1]; simp only [Option.bind_some]
    exact hoistKeeps_loop 120 k 0 v1 0 ⟨by omega, by omega, by omega, by omega, by omega, by omega⟩ (by omega) (by omega) (by omega) (by omega)
  · rw [if_neg (by simpa using hl), awake_ok]
    rfl
end Go.Proofs.Ytcebojamjllmjaa.Pure

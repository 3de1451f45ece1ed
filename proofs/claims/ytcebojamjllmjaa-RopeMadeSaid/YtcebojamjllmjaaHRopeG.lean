/- Package rope and its reference compute the same plain functions; their contracts in the print's form. No condition. -/
import Derived.Test.YtcebojamjllmjaaHRope
namespace Go.Proofs.Ytcebojamjllmjaa.Hand
open Go.RowKit
set_option linter.unusedVariables false

theorem valid_eq (a0 a1 a2 b0 b1 : Int) : refValid a0 a1 a2 b0 b1 = ropeValid a0 a1 a2 b0 b1 := by
  unfold refValid ropeValid inB
  grind only
theorem tick_eq (a0 a1 a2 b0 b1 : Int) (b2 : Bool) (l h : Int) (down : Bool) (t : Int) : refTick a0 a1 a2 b0 b1 b2 l h down t = ropeTick a0 a1 a2 b0 b1 b2 l h down t := by
  unfold refTick ropeTick
  rw [valid_eq]
  by_cases hv : ropeValid a0 a1 a2 b0 b1 = true
  · have hv' := hv
    unfold ropeValid inB at hv'
    simp only [Bool.and_eq_true, decide_eq_true_eq] at hv'
    obtain ⟨⟨⟨⟨h1, h2, h3⟩, h4, h5⟩, h6, h7⟩, h8, h9⟩ := hv'
    have e1 : refEnough a0 l h = enough a0 l h := by unfold refEnough enough known; grind only
    have e2 : refFine a1 l h = light a1 l h := by unfold refFine light known; grind only
    have e3 : refSince a0 b0 l h t = tickSince a0 b0 l h t := by unfold refSince tickSince; rw [e1]; grind only
    rw [e2, e3]
    by_cases ht : t < 0 ∨ 2147483648 < t ∨ t < b1
    · have : inB t b1 2147483648 = false := by unfold inB; grind only
      simp [hv, ht, this]
    · have : inB t b1 2147483648 = true := by unfold inB; grind only
      simp only [hv, this, Bool.not_true, if_neg ht, Bool.false_eq_true, if_false]
      have hs : decide (¬ tickSince a0 b0 l h t = -1) = decide (0 ≤ tickSince a0 b0 l h t) := by unfold tickSince; grind only
      rw [hs]
  · simp only [Bool.not_eq_true] at hv
    simp [hv]
theorem reset_eq (a0 a1 a2 b0 b1 : Int) (b2 : Bool) (l h speed t : Int) : refReset a0 a1 a2 b0 b1 b2 l h speed t = ropeReset a0 a1 a2 b0 b1 b2 l h speed t := by
  unfold refReset ropeReset
  rw [valid_eq]
  by_cases hv : ropeValid a0 a1 a2 b0 b1 = true
  · have hv' := hv
    unfold ropeValid inB at hv'
    simp only [Bool.and_eq_true, decide_eq_true_eq] at hv'
    obtain ⟨⟨⟨⟨h1, h2, h3⟩, h4, h5⟩, h6, h7⟩, h8, h9⟩ := hv'
    have e1 : refEnough a0 l h = enough a0 l h := by unfold refEnough enough known; grind only
    have e2 : refFine a1 l h = light a1 l h := by unfold refFine light known; grind only
    rw [e1, e2]
    by_cases ht : t < 0 ∨ 2147483648 < t ∨ t < b1
    · have : inB t b1 2147483648 = false := by unfold inB; grind only
      simp [hv, ht, this]
    · have : inB t b1 2147483648 = true := by unfold inB; grind only
      simp only [hv, this, Bool.not_true, if_neg ht, Bool.false_eq_true, if_false]
  · simp only [Bool.not_eq_true] at hv
    simp [hv]
theorem slack_eq (a0 a1 a2 b0 b1 t : Int) : refSlack a0 a1 a2 b0 b1 t = ropeSlack a0 a1 a2 b0 b1 t := by
  unfold refSlack ropeSlack
  rw [valid_eq]
  by_cases hv : ropeValid a0 a1 a2 b0 b1 = true
  · have hv' := hv
    unfold ropeValid inB at hv'
    simp only [Bool.and_eq_true, decide_eq_true_eq] at hv'
    obtain ⟨⟨⟨⟨h1, h2, h3⟩, h4, h5⟩, h6, h7⟩, h8, h9⟩ := hv'
    grind only
  · simp only [Bool.not_eq_true] at hv
    simp [hv]

def rope_Tick.f (a0_0 : Int) (a0_1 : Int) (a0_2 : Int) (a1_0 : Int) (a1_1 : Int) (a1_2 : Bool) (a2_0 : Int) (a2_1 : Int) (a3 : Bool) (a4 : Int) : Option (Int × Int × Bool × Int) := some (ropeTick a0_0 a0_1 a0_2 a1_0 a1_1 a1_2 a2_0 a2_1 a3 a4)
theorem rope_Tick.calls (a0_0 : Int) (a0_1 : Int) (a0_2 : Int) (a1_0 : Int) (a1_1 : Int) (a1_2 : Bool) (a2_0 : Int) (a2_1 : Int) (a3 : Bool) (a4 : Int) (r1 : Int) (r2 : Int) (r3 : Bool) (r4 : Int) (w : World) (h : rope_Tick.f a0_0 a0_1 a0_2 a1_0 a1_1 a1_2 a2_0 a2_1 a3 a4 = some (r1, r2, r3, r4)) :
    Calls Try.prog 23 #[.agg #[.int .i64 a0_0, .int .i64 a0_1, .int .i64 a0_2], .agg #[.int .i64 a1_0, .int .i64 a1_1, .bool a1_2], .agg #[.int .i64 a2_0, .int .i64 a2_1], .bool a3, .int .i64 a4] w fun e w' => e = .returned (.tuple #[.agg #[.int .i64 r1, .int .i64 r2, .bool r3], .int .i64 r4]) ∧ Below w.heap.size w w' := by
  have h := Option.some.inj h
  refine (tick_calls a0_0 a0_1 a0_2 a1_0 a1_1 a1_2 a2_0 a2_1 a3 a4 w).mono ?_
  rintro e w' ⟨rfl, hb⟩
  rw [h]
  exact ⟨rfl, hb⟩

theorem ref38_Tick.calls (a0_0 : Int) (a0_1 : Int) (a0_2 : Int) (a1_0 : Int) (a1_1 : Int) (a1_2 : Bool) (a2_0 : Int) (a2_1 : Int) (a3 : Bool) (a4 : Int) (r1 : Int) (r2 : Int) (r3 : Bool) (r4 : Int) (w : World) (h : rope_Tick.f a0_0 a0_1 a0_2 a1_0 a1_1 a1_2 a2_0 a2_1 a3 a4 = some (r1, r2, r3, r4)) :
    Calls Try.prog 21 #[.agg #[.int .i64 a0_0, .int .i64 a0_1, .int .i64 a0_2], .agg #[.int .i64 a1_0, .int .i64 a1_1, .bool a1_2], .agg #[.int .i64 a2_0, .int .i64 a2_1], .bool a3, .int .i64 a4] w fun e w' => e = .returned (.tuple #[.agg #[.int .i64 r1, .int .i64 r2, .bool r3], .int .i64 r4]) ∧ Below w.heap.size w w' := by
  have h := Option.some.inj h
  refine (rtick_calls a0_0 a0_1 a0_2 a1_0 a1_1 a1_2 a2_0 a2_1 a3 a4 w).mono ?_
  rintro e w' ⟨rfl, hb⟩
  simp only [tick_eq]
  rw [h]
  exact ⟨rfl, hb⟩

def rope_Reset.f (a0_0 : Int) (a0_1 : Int) (a0_2 : Int) (a1_0 : Int) (a1_1 : Int) (a1_2 : Bool) (a2_0 : Int) (a2_1 : Int) (a3 : Int) (a4 : Int) : Option (Int × Int × Bool × Int) := some (ropeReset a0_0 a0_1 a0_2 a1_0 a1_1 a1_2 a2_0 a2_1 a3 a4)
theorem rope_Reset.calls (a0_0 : Int) (a0_1 : Int) (a0_2 : Int) (a1_0 : Int) (a1_1 : Int) (a1_2 : Bool) (a2_0 : Int) (a2_1 : Int) (a3 : Int) (a4 : Int) (r1 : Int) (r2 : Int) (r3 : Bool) (r4 : Int) (w : World) (h : rope_Reset.f a0_0 a0_1 a0_2 a1_0 a1_1 a1_2 a2_0 a2_1 a3 a4 = some (r1, r2, r3, r4)) :
    Calls Try.prog 22 #[.agg #[.int .i64 a0_0, .int .i64 a0_1, .int .i64 a0_2], .agg #[.int .i64 a1_0, .int .i64 a1_1, .bool a1_2], .agg #[.int .i64 a2_0, .int .i64 a2_1], .int .i64 a3, .int .i64 a4] w fun e w' => e = .returned (.tuple #[.agg #[.int .i64 r1, .int .i64 r2, .bool r3], .int .i64 r4]) ∧ Below w.heap.size w w' := by
  have h := Option.some.inj h
  refine (reset_calls a0_0 a0_1 a0_2 a1_0 a1_1 a1_2 a2_0 a2_1 a3 a4 w).mono ?_
  rintro e w' ⟨rfl, hb⟩
  rw [h]
  exact ⟨rfl, hb⟩

theorem ref38_Reset.calls (a0_0 : Int) (a0_1 : Int) (a0_2 : Int) (a1_0 : Int) (a1_1 : Int) (a1_2 : Bool) (a2_0 : Int) (a2_1 : Int) (a3 : Int) (a4 : Int) (r1 : Int) (r2 : Int) (r3 : Bool) (r4 : Int) (w : World) (h : rope_Reset.f a0_0 a0_1 a0_2 a1_0 a1_1 a1_2 a2_0 a2_1 a3 a4 = some (r1, r2, r3, r4)) :
    Calls Try.prog 20 #[.agg #[.int .i64 a0_0, .int .i64 a0_1, .int .i64 a0_2], .agg #[.int .i64 a1_0, .int .i64 a1_1, .bool a1_2], .agg #[.int .i64 a2_0, .int .i64 a2_1], .int .i64 a3, .int .i64 a4] w fun e w' => e = .returned (.tuple #[.agg #[.int .i64 r1, .int .i64 r2, .bool r3], .int .i64 r4]) ∧ Below w.heap.size w w' := by
  have h := Option.some.inj h
  refine (rreset_calls a0_0 a0_1 a0_2 a1_0 a1_1 a1_2 a2_0 a2_1 a3 a4 w).mono ?_
  rintro e w' ⟨rfl, hb⟩
  simp only [reset_eq]
  rw [h]
  exact ⟨rfl, hb⟩

def rope_Slack.f (a0_0 : Int) (a0_1 : Int) (a0_2 : Int) (a1_0 : Int) (a1_1 : Int) (a1_2 : Bool) (a2 : Int) : Option (Int) := some (ropeSlack a0_0 a0_1 a0_2 a1_0 a1_1 a2)
theorem rope_Slack.calls (a0_0 : Int) (a0_1 : Int) (a0_2 : Int) (a1_0 : Int) (a1_1 : Int) (a1_2 : Bool) (a2 : Int) (r : Int) (w : World) (h : rope_Slack.f a0_0 a0_1 a0_2 a1_0 a1_1 a1_2 a2 = some r) :
    Calls Try.prog 24 #[.agg #[.int .i64 a0_0, .int .i64 a0_1, .int .i64 a0_2], .agg #[.int .i64 a1_0, .int .i64 a1_1, .bool a1_2], .int .i64 a2] w fun e w' => e = .returned (.int .i64 r) ∧ Below w.heap.size w w' := by
  have h := Option.some.inj h
  refine (slack_calls a0_0 a0_1 a0_2 a1_0 a1_1 a1_2 a2 w).mono ?_
  rintro e w' ⟨rfl, hb⟩
  rw [h]
  exact ⟨rfl, hb⟩

theorem ref38_Slack.calls (a0_0 : Int) (a0_1 : Int) (a0_2 : Int) (a1_0 : Int) (a1_1 : Int) (a1_2 : Bool) (a2 : Int) (r : Int) (w : World) (h : rope_Slack.f a0_0 a0_1 a0_2 a1_0 a1_1 a1_2 a2 = some r) :
    Calls Try.prog 35 #[.agg #[.int .i64 a0_0, .int .i64 a0_1, .int .i64 a0_2], .agg #[.int .i64 a1_0, .int .i64 a1_1, .bool a1_2], .int .i64 a2] w fun e w' => e = .returned (.int .i64 r) ∧ Below w.heap.size w w' := by
  have h := Option.some.inj h
  refine (rslack_calls a0_0 a0_1 a0_2 a1_0 a1_1 a1_2 a2 w).mono ?_
  rintro e w' ⟨rfl, hb⟩
  rw [slack_eq]
  rw [h]
  exact ⟨rfl, hb⟩

def rope_Valid.f (a0_0 : Int) (a0_1 : Int) (a0_2 : Int) (a1_0 : Int) (a1_1 : Int) (a1_2 : Bool) : Option (Bool) := some (ropeValid a0_0 a0_1 a0_2 a1_0 a1_1)
theorem rope_Valid.calls (a0_0 : Int) (a0_1 : Int) (a0_2 : Int) (a1_0 : Int) (a1_1 : Int) (a1_2 : Bool) (r : Bool) (w : World) (h : rope_Valid.f a0_0 a0_1 a0_2 a1_0 a1_1 a1_2 = some r) :
    Calls Try.prog 36 #[.agg #[.int .i64 a0_0, .int .i64 a0_1, .int .i64 a0_2], .agg #[.int .i64 a1_0, .int .i64 a1_1, .bool a1_2]] w fun e w' => e = .returned (.bool r) ∧ Below w.heap.size w w' := by
  have h := Option.some.inj h
  refine (valid_calls a0_0 a0_1 a0_2 a1_0 a1_1 a1_2 w).mono ?_
  rintro e w' ⟨rfl, hb⟩
  rw [h]
  exact ⟨rfl, hb⟩

theorem ref38_Valid.calls (a0_0 : Int) (a0_1 : Int) (a0_2 : Int) (a1_0 : Int) (a1_1 : Int) (a1_2 : Bool) (r : Bool) (w : World) (h : rope_Valid.f a0_0 a0_1 a0_2 a1_0 a1_1 a1_2 = some r) :
    Calls Try.prog 37 #[.agg #[.int .i64 a0_0, .int .i64 a0_1, .int .i64 a0_2], .agg #[.int .i64 a1_0, .int .i64 a1_1, .bool a1_2]] w fun e w' => e = .returned (.bool r) ∧ Below w.heap.size w w' := by
  have h := Option.some.inj h
  refine (rvalid_calls a0_0 a0_1 a0_2 a1_0 a1_1 a1_2 w).mono ?_
  rintro e w' ⟨rfl, hb⟩
  rw [valid_eq]
  rw [h]
  exact ⟨rfl, hb⟩

end Go.Proofs.Ytcebojamjllmjaa.Hand

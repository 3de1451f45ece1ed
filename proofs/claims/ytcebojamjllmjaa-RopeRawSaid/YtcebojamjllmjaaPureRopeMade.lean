/- The states of a rope under any rows of forces: the program's functions answer as the reference's. For every list of numbers. -/
import Derived.Test.YtcebojamjllmjaaPRopex3
import Derived.Test.YtcebojamjllmjaaPRopex4
import Derived.Test.YtcebojamjllmjaaDice
namespace Go.Proofs.Ytcebojamjllmjaa.Pure
open Go.RowKit Go.Proofs.Ytcebojamjllmjaa.PRope Go.Proofs.Ytcebojamjllmjaa.PDice Go.Proofs.Ytcebojamjllmjaa.Hand Go.Proofs.YtcebojamjllmjaaW.PrintWords Go.Proofs.YtcebojamjllmjaaW.PrintLast
set_option linter.unusedVariables false

theorem rope_awake : law38_awake.f = some true := by decide +kernel
theorem rope_agree (a b c d e : Int) (f : Bool) (g h : Int) (i : Bool) (j k : Int) : law38_agree.f a b c d e f g h i j k = some true := by
  unfold law38_agree.f rope_Tick.f rope_Reset.f rope_Slack.f rope_Valid.f
  simp only [Option.bind_some]
theorem force_ok {L : List Int} {a : Int} (h : DiceOk L a) : ∃ x y b, law38_force.f L a = some (x, y, b) ∧ DiceOk L b := by
  obtain ⟨v1, b1, e1, _, g1⟩ := of_ok h [100, 99, 500, 900, 0, 901] (by simp) (by simp)
  obtain ⟨v2, b2, e2, _, g2⟩ := of_ok g1 [900, 901, 100, 500] (by simp) (by simp)
  obtain ⟨v3, b3, e3, g3⟩ := one_ok g2 8 (by omega) (by omega)
  unfold law38_force.f
  rw [e1]; simp only [Option.bind_some]
  rw [e2]; simp only [Option.bind_some]
  rw [e3]; simp only [Option.bind_some]
  cases v3
  · exact ⟨_, _, _, rfl, g3⟩
  · exact ⟨_, _, _, rfl, g3⟩

theorem ropeMade_loop (L : List Int) (r0 r1 r2 : Int) (n : Nat) : ∀ (k : Nat) (now : Int) (a : Int) (p0 p1 : Int) (p2 : Bool), DiceOk L a → n ≤ 100 → n < k →
    law38_RopeMade.l0 k now (n : Int) L a r0 r1 r2 p0 p1 p2 = some true := by
  induction n with
  | zero =>
    intro k now a p0 p1 p2 hg hn hk
    obtain ⟨k, rfl⟩ : ∃ m, k = m + 1 := ⟨k - 1, by omega⟩
    simp only [law38_RopeMade.l0]
    rw [if_neg (by omega), rope_awake]
    rfl
  | succ n ih =>
    intro k now a p0 p1 p2 hg hn hk
    obtain ⟨k, rfl⟩ : ∃ m, k = m + 1 := ⟨k - 1, by omega⟩
    obtain ⟨x, y, b1, e1, g1⟩ := force_ok hg
    obtain ⟨v2, b2, e2, g2⟩ := one_ok g1 2 (by omega) (by omega)
    obtain ⟨v3, b3, e3, _, g3⟩ := of_ok g2 [1, 0, 4, 11, -1] (by simp) (by simp)
    obtain ⟨v4, b4, e4, _, g4⟩ := of_ok g3 [0, 5] (by simp) (by simp)
    obtain ⟨v5, b5, e5, g5⟩ := one_ok g4 5 (by omega) (by omega)
    have hw : wrap64 (((n + 1 : Nat) : Int) - 1) = (n : Int) := by unfold wrap64; omega
    simp only [law38_RopeMade.l0]
    rw [if_pos (by omega), e1]; simp only [Option.bind_some]
    rw [e2]; simp only [Option.bind_some]
    rw [e3]; simp only [Option.bind_some]
    rw [e4]; simp only [Option.bind_some]
    rw [rope_agree]; simp only [Option.bind_some, if_true]
    rw [e5]; simp only [Option.bind_some]
    rw [hw]
    unfold rope_Reset.f rope_Tick.f
    simp only [Option.bind_some]
    split
    · exact ih k _ _ _ _ _ g5 (by omega) (by omega)
    · exact ih k _ _ _ _ _ g5 (by omega) (by omega)

theorem RopeMade : law38_RopeMade.Pure := by
  intro l0 hm hs hw
  obtain ⟨k, hk⟩ : ∃ k : Nat, 200 ≤ k := ⟨200, Nat.le_refl _⟩
  refine ⟨k, ?_⟩
  unfold law38_RopeMade.f made_Light.f made_Roll.f
  simp only [Option.bind_some]
  by_cases hl : (l0.length : Int) ≤ 400
  · rw [if_pos (by simpa using hl)]
    obtain ⟨v1, b1, e1, _, g1⟩ := of_ok (DiceOk.zero hl) [3, 0, 10] (by simp) (by simp)
    obtain ⟨v2, b2, e2, h20, h21, g2⟩ := next_ok g1 20 (by omega) (by omega)
    rw [e1]; simp only [Option.bind_some]
    rw [e2]; simp only [Option.bind_some]
    obtain ⟨n, rfl⟩ := Int.eq_ofNat_of_zero_le h20
    exact ropeMade_loop l0 _ _ _ n _ _ _ _ _ _ g2 (by omega) (by omega)
  · rw [if_neg (by simpa using hl), rope_awake]
    rfl
end Go.Proofs.Ytcebojamjllmjaa.Pure

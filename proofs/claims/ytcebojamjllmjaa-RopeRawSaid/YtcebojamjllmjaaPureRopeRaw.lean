/- All functions of package rope return what the reference returns, for any rope, state, force and time. For every input. -/
import Derived.Test.YtcebojamjllmjaaPRopex2
import Derived.Test.YtcebojamjllmjaaPureRopeMade
namespace Go.Proofs.Ytcebojamjllmjaa.Pure
open Go.RowKit Go.Proofs.Ytcebojamjllmjaa.PRope Go.Proofs.Ytcebojamjllmjaa.Hand Go.Proofs.YtcebojamjllmjaaW.PrintWords Go.Proofs.YtcebojamjllmjaaW.PrintLast
set_option linter.unusedVariables false

theorem ropeRaw_loop (xs : List Int) (a0 a1 a2 b0 b1 : Int) (b2 : Bool) (c0 c1 : Int) (hx : xs.length ≤ 100) (d : Nat) : ∀ (k : Nat) (i : Int), 0 ≤ i → i ≤ (xs.length : Int) → (xs.length : Int) - i = (d : Int) → 2 * d < k →
    law38_RopeRaw.l0 k xs (xs.length : Int) i a0 a1 a2 b0 b1 b2 c0 c1 = some true := by
  induction d with
  | zero =>
    intro k i h0 h1 hd hk
    obtain ⟨k, rfl⟩ : ∃ m, k = m + 1 := ⟨k - 1, by omega⟩
    simp only [law38_RopeRaw.l0]
    rw [if_neg (by omega), rope_awake]
    rfl
  | succ d ih =>
    intro k i h0 h1 hd hk
    obtain ⟨k, rfl⟩ : ∃ m, k = m + 1 + 1 := ⟨k - 2, by omega⟩
    have hw : wrap64 (i + 1) = i + 1 := by unfold wrap64; omega
    simp only [law38_RopeRaw.l0]
    rw [if_pos (by omega), if_pos h0, if_pos (by omega)]
    simp only [rope_agree, Option.bind_some, if_true]
    simp only [law38_RopeRaw.j1]
    rw [if_neg (by simp), hw]
    exact ih k (i + 1) (by omega) (by omega) (by omega) (by omega)
theorem RopeRaw (a0 a1 a2 b0 b1 : Int) (b2 : Bool) (c0 c1 : Int) : ∃ k, law38_RopeRaw.f k a0 a1 a2 b0 b1 b2 c0 c1 = some true := by
  refine ⟨20, ?_⟩
  unfold law38_RopeRaw.f
  simp only [Option.bind_some]
  exact ropeRaw_loop [b1, 0, 500, b0, -1, 2147483648, 2147483649] a0 a1 a2 b0 b1 b2 c0 c1 (by simp) 7 20 0 (by omega) (by simp) (by simp) (by omega)
end Go.Proofs.Ytcebojamjllmjaa.Pure

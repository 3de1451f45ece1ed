/- What any ride becomes: given code and document tell the same. For every input. -/
import Derived.Test.YtcebojamjllmjaaHRef
import Derived.Test.YtcebojamjllmjaaPHoistx20
namespace Go.Proofs.Ytcebojamjllmjaa.Pure
open Go.RowKit Go.Proofs.Ytcebojamjllmjaa.PHoist Go.Proofs.Ytcebojamjllmjaa.HMath Go.Proofs.Ytcebojamjllmjaa.HRef Go.Proofs.YtcebojamjllmjaaW.PrintWords Go.Proofs.YtcebojamjllmjaaW.PrintLast
set_option linter.unusedVariables false
theorem HoistRaw (d t b c m a v : Int) (f : Bool) (x : Int) (hd : (Lit.int .i64 d).wf = true) : ∃ k, law37_HoistRaw.f k d t b c m a v f x = some true := by
  obtain ⟨k, hk⟩ : ∃ k : Nat, 16 ≤ k := ⟨16, Nat.le_refl _⟩
  refine ⟨k, ?_⟩
  unfold law37_HoistRaw.f law37_shaft.f
  rw [awake_ok]
  simp only [Option.bind_some, if_true]
  rw [agree_ok _ _ _ _ _ _ _ _ _ hd hk]
  simp only [Option.bind_some, if_true]
  rw [agree_ok _ _ _ _ _ _ _ _ _ (by decide +kernel) hk]
  rfl
end Go.Proofs.Ytcebojamjllmjaa.Pure

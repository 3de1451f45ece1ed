-- written by wip/myprint.py (the kit's print over hand-proved contracts)
import Derived.Test.YtcebojamjllmjaaProg
import Derived.Below
import Derived.Deep.Draws
import Derived.Deep.AppendLies
import Derived.Maps.AppendAt
import Derived.OwnWalk
import Derived.Laws.BytesArg
import Derived.Laws.MakeOwn
import Derived.Laws.OwnMore
import Derived.Deep.OwnRows
import Derived.Tactics
import Derived.Lib.ConvBytes
import Derived.Laws.Slices
import Derived.WalkKit
import Derived.KernelRfl
import Derived.RowKit3
import Derived.Deep.LoopGhost
import Derived.Deep.QuietTactic
import Derived.BigQuiet
import Derived.WideLaws
import Derived.Deep.DeepCutAuto
import Derived.Deep.CutBlock
import Derived.Deep.RegionHeld3
import Derived.Laws.Rows
import Derived.Lib.AppendStr
import Derived.ArgAppend
import Derived.Laws.IdiomCopy
import Derived.OrdersHeld
import Derived.Laws.BitsLemmas
import Derived.RowKit
import Derived.Test.YtcebojamjllmjaaVWords
import Derived.Test.YtcebojamjllmjaaVLast
import Derived.Test.YtcebojamjllmjaaVTab
import Derived.Test.YtcebojamjllmjaaVQPut
import Derived.Test.YtcebojamjllmjaaVApart
import Derived.Test.YtcebojamjllmjaaVArr
import Derived.Test.YtcebojamjllmjaaVZeros
import Derived.Test.YtcebojamjllmjaaVFoot
import Derived.Test.YtcebojamjllmjaaVKept
import Derived.Test.YtcebojamjllmjaaVShare
import Derived.Test.YtcebojamjllmjaaVN
import Derived.Test.YtcebojamjllmjaaVFootNe
import Derived.Test.YtcebojamjllmjaaVEqStruct
import Derived.Test.YtcebojamjllmjaaVRepsOne
import Derived.Test.YtcebojamjllmjaaVInv
import Derived.Test.YtcebojamjllmjaaVInvWords
import Derived.Test.YtcebojamjllmjaaVGuard
import Derived.Test.YtcebojamjllmjaaVNEv
import Derived.Test.YtcebojamjllmjaaVMore
namespace Go.Proofs.Ytcebojamjllmjaa.PHoist
open Go.RowKit Go.Proofs.YtcebojamjllmjaaW.PrintWords Go.Proofs.YtcebojamjllmjaaW.PrintLast Go.Proofs.YtcebojamjllmjaaW.PrintMore
attribute [local go_sem] max2_int min2_int max_two min_two max_three min_three max_four min_four   -- for this text's walks alone
set_option linter.unusedVariables false
set_option linter.unusedSimpArgs false



def errW : Option Int → Value
 | none => .nilIface
 | some c => .iface 0 (.int .i64 c)
theorem errW_none : errW none = .nilIface := rfl
theorem errW_some (c : Int) : errW (some c) = .iface 0 (.int .i64 c) := rfl

theorem info3 : (Try.prog.info? 3).map (fun i => (i.zero, i.size, i.bytes)) = some (some (.int .i64 0), 1, 8) := by kernel_rfl
-- the values' own types

abbrev sZ1 {α : Type} := @List.setIfInBounds_toArray α
abbrev sZ2 {α : Type} := @List.set_cons_zero α
abbrev sZ3 {α : Type} := @List.set_cons_succ α
abbrev D12m0 : Array Bool := #[false, false, false, false, false, false, false, false, false, false, false, false]
abbrev D12m1f : Array Bool := #[true, true, true, true, true, false, false, false, false, false, false, false]
abbrev D12m1ff : Array Bool := #[true, true, true, true, true, true, true, true, true, false, false, false]
abbrev D12m207 : Array Bool := #[true, true, true, false, false, false, false, false, false, true, false, false]
abbrev D12m20f : Array Bool := #[true, true, true, true, false, false, false, false, false, true, false, false]
abbrev D12m21f : Array Bool := #[true, true, true, true, true, false, false, false, false, true, false, false]
abbrev D12m23f : Array Bool := #[true, true, true, true, true, true, false, false, false, true, false, false]
abbrev D12m27f : Array Bool := #[true, true, true, true, true, true, true, false, false, true, false, false]
abbrev D12m2ff : Array Bool := #[true, true, true, true, true, true, true, true, false, true, false, false]
abbrev D12m3f : Array Bool := #[true, true, true, true, true, true, false, false, false, false, false, false]
abbrev D12m3ff : Array Bool := #[true, true, true, true, true, true, true, true, true, true, false, false]
abbrev D12m4 : Array Bool := #[false, false, true, false, false, false, false, false, false, false, false, false]
abbrev D12m5 : Array Bool := #[true, false, true, false, false, false, false, false, false, false, false, false]
abbrev D12m7 : Array Bool := #[true, true, true, false, false, false, false, false, false, false, false, false]
abbrev D12m7f : Array Bool := #[true, true, true, true, true, true, true, false, false, false, false, false]
abbrev D12m7ff : Array Bool := #[true, true, true, true, true, true, true, true, true, true, true, false]
abbrev D12mf : Array Bool := #[true, true, true, true, false, false, false, false, false, false, false, false]
abbrev D12mff : Array Bool := #[true, true, true, true, true, true, true, true, false, false, false, false]
abbrev D12mfff : Array Bool := #[true, true, true, true, true, true, true, true, true, true, true, true]
abbrev D13m0 : Array Bool := #[false, false, false, false, false, false, false, false, false, false, false, false, false]
abbrev D13m1 : Array Bool := #[true, false, false, false, false, false, false, false, false, false, false, false, false]
abbrev D13m12b : Array Bool := #[true, true, false, true, false, true, false, false, true, false, false, false, false]
abbrev D13m12f : Array Bool := #[true, true, true, true, false, true, false, false, true, false, false, false, false]
abbrev D13m13f : Array Bool := #[true, true, true, true, true, true, false, false, true, false, false, false, false]
abbrev D13m15 : Array Bool := #[true, false, true, false, true, false, false, false, false, false, false, false, false]
abbrev D13m17f : Array Bool := #[true, true, true, true, true, true, true, false, true, false, false, false, false]
abbrev D13m1ff : Array Bool := #[true, true, true, true, true, true, true, true, true, false, false, false, false]
abbrev D13m1fff : Array Bool := #[true, true, true, true, true, true, true, true, true, true, true, true, true]
abbrev D13m2b : Array Bool := #[true, true, false, true, false, true, false, false, false, false, false, false, false]
abbrev D13m3 : Array Bool := #[true, true, false, false, false, false, false, false, false, false, false, false, false]
abbrev D13m3ff : Array Bool := #[true, true, true, true, true, true, true, true, true, true, false, false, false]
abbrev D13m5 : Array Bool := #[true, false, true, false, false, false, false, false, false, false, false, false, false]
abbrev D13m7ff : Array Bool := #[true, true, true, true, true, true, true, true, true, true, true, false, false]
abbrev D13m95 : Array Bool := #[true, false, true, false, true, false, false, true, false, false, false, false, false]
abbrev D13m97 : Array Bool := #[true, true, true, false, true, false, false, true, false, false, false, false, false]
abbrev D13m9f : Array Bool := #[true, true, true, true, true, false, false, true, false, false, false, false, false]
abbrev D13mb : Array Bool := #[true, true, false, true, false, false, false, false, false, false, false, false, false]
abbrev D13mbf : Array Bool := #[true, true, true, true, true, true, false, true, false, false, false, false, false]
abbrev D13mff : Array Bool := #[true, true, true, true, true, true, true, true, false, false, false, false, false]
abbrev D13mfff : Array Bool := #[true, true, true, true, true, true, true, true, true, true, true, true, false]
abbrev D14m0 : Array Bool := #[false, false, false, false, false, false, false, false, false, false, false, false, false, false]
abbrev D14m1 : Array Bool := #[true, false, false, false, false, false, false, false, false, false, false, false, false, false]
abbrev D14m13 : Array Bool := #[true, true, false, false, true, false, false, false, false, false, false, false, false, false]
abbrev D14m17 : Array Bool := #[true, true, true, false, true, false, false, false, false, false, false, false, false, false]
abbrev D14m1f : Array Bool := #[true, true, true, true, true, false, false, false, false, false, false, false, false, false]
abbrev D14m1fff : Array Bool := #[true, true, true, true, true, true, true, true, true, true, true, true, true, false]
abbrev D14m3 : Array Bool := #[true, true, false, false, false, false, false, false, false, false, false, false, false, false]
abbrev D14m3f : Array Bool := #[true, true, true, true, true, true, false, false, false, false, false, false, false, false]
abbrev D14m3fff : Array Bool := #[true, true, true, true, true, true, true, true, true, true, true, true, true, true]
abbrev D14m4ff : Array Bool := #[true, true, true, true, true, true, true, true, false, false, true, false, false, false]
abbrev D14m6ff : Array Bool := #[true, true, true, true, true, true, true, true, false, true, true, false, false, false]
abbrev D14m7f : Array Bool := #[true, true, true, true, true, true, true, false, false, false, false, false, false, false]
abbrev D14m7ff : Array Bool := #[true, true, true, true, true, true, true, true, true, true, true, false, false, false]
abbrev D14mff : Array Bool := #[true, true, true, true, true, true, true, true, false, false, false, false, false, false]
abbrev D14mfff : Array Bool := #[true, true, true, true, true, true, true, true, true, true, true, true, false, false]
abbrev D16m0 : Array Bool := #[false, false, false, false, false, false, false, false, false, false, false, false, false, false, false, false]
abbrev D16m12 : Array Bool := #[false, true, false, false, true, false, false, false, false, false, false, false, false, false, false, false]
abbrev D16m12ff : Array Bool := #[true, true, true, true, true, true, true, true, false, true, false, false, true, false, false, false]
abbrev D16m13 : Array Bool := #[true, true, false, false, true, false, false, false, false, false, false, false, false, false, false, false]
abbrev D16m13ff : Array Bool := #[true, true, true, true, true, true, true, true, true, true, false, false, true, false, false, false]
abbrev D16m1b : Array Bool := #[true, true, false, true, true, false, false, false, false, false, false, false, false, false, false, false]
abbrev D16m1bff : Array Bool := #[true, true, true, true, true, true, true, true, true, true, false, true, true, false, false, false]
abbrev D16m1f : Array Bool := #[true, true, true, true, true, false, false, false, false, false, false, false, false, false, false, false]
abbrev D16m1ff : Array Bool := #[true, true, true, true, true, true, true, true, true, false, false, false, false, false, false, false]
abbrev D16m1fff : Array Bool := #[true, true, true, true, true, true, true, true, true, true, true, true, true, false, false, false]
abbrev D16m2 : Array Bool := #[false, true, false, false, false, false, false, false, false, false, false, false, false, false, false, false]
abbrev D16m2ff : Array Bool := #[true, true, true, true, true, true, true, true, false, true, false, false, false, false, false, false]
abbrev D16m3f : Array Bool := #[true, true, true, true, true, true, false, false, false, false, false, false, false, false, false, false]
abbrev D16m3ff : Array Bool := #[true, true, true, true, true, true, true, true, true, true, false, false, false, false, false, false]
abbrev D16m3fff : Array Bool := #[true, true, true, true, true, true, true, true, true, true, true, true, true, true, false, false]
abbrev D16m7f : Array Bool := #[true, true, true, true, true, true, true, false, false, false, false, false, false, false, false, false]
abbrev D16m7ff : Array Bool := #[true, true, true, true, true, true, true, true, true, true, true, false, false, false, false, false]
abbrev D16m7fff : Array Bool := #[true, true, true, true, true, true, true, true, true, true, true, true, true, true, true, false]
abbrev D16mff : Array Bool := #[true, true, true, true, true, true, true, true, false, false, false, false, false, false, false, false]
abbrev D16mfff : Array Bool := #[true, true, true, true, true, true, true, true, true, true, true, true, false, false, false, false]
abbrev D16mffff : Array Bool := #[true, true, true, true, true, true, true, true, true, true, true, true, true, true, true, true]
abbrev D18m0 : Array Bool := #[false, false, false, false, false, false, false, false, false, false, false, false, false, false, false, false, false, false]
abbrev D18m1 : Array Bool := #[true, false, false, false, false, false, false, false, false, false, false, false, false, false, false, false, false, false]
abbrev D18m19ff : Array Bool := #[true, true, true, true, true, true, true, true, true, false, false, true, true, false, false, false, false, false]
abbrev D18m1ffff : Array Bool := #[true, true, true, true, true, true, true, true, true, true, true, true, true, true, true, true, true, false]
abbrev D18m244d : Array Bool := #[true, false, true, true, false, false, true, false, false, false, true, false, false, true, false, false, false, false]
abbrev D18m244f : Array Bool := #[true, true, true, true, false, false, true, false, false, false, true, false, false, true, false, false, false, false]
abbrev D18m245f : Array Bool := #[true, true, true, true, true, false, true, false, false, false, true, false, false, true, false, false, false, false]
abbrev D18m247f : Array Bool := #[true, true, true, true, true, true, true, false, false, false, true, false, false, true, false, false, false, false]
abbrev D18m24ff : Array Bool := #[true, true, true, true, true, true, true, true, false, false, true, false, false, true, false, false, false, false]
abbrev D18m2cff : Array Bool := #[true, true, true, true, true, true, true, true, false, false, true, true, false, true, false, false, false, false]
abbrev D18m39ff : Array Bool := #[true, true, true, true, true, true, true, true, true, false, false, true, true, true, false, false, false, false]
abbrev D18m3bff : Array Bool := #[true, true, true, true, true, true, true, true, true, true, false, true, true, true, false, false, false, false]
abbrev D18m3cff : Array Bool := #[true, true, true, true, true, true, true, true, false, false, true, true, true, true, false, false, false, false]
abbrev D18m3fff : Array Bool := #[true, true, true, true, true, true, true, true, true, true, true, true, true, true, false, false, false, false]
abbrev D18m3ffff : Array Bool := #[true, true, true, true, true, true, true, true, true, true, true, true, true, true, true, true, true, true]
abbrev D18m44d : Array Bool := #[true, false, true, true, false, false, true, false, false, false, true, false, false, false, false, false, false, false]
abbrev D18m4d : Array Bool := #[true, false, true, true, false, false, true, false, false, false, false, false, false, false, false, false, false, false]
abbrev D18m5 : Array Bool := #[true, false, true, false, false, false, false, false, false, false, false, false, false, false, false, false, false, false]
abbrev D18m7cff : Array Bool := #[true, true, true, true, true, true, true, true, false, false, true, true, true, true, true, false, false, false]
abbrev D18m7dff : Array Bool := #[true, true, true, true, true, true, true, true, true, false, true, true, true, true, true, false, false, false]
abbrev D18m7fff : Array Bool := #[true, true, true, true, true, true, true, true, true, true, true, true, true, true, true, false, false, false]
abbrev D18m805 : Array Bool := #[true, false, true, false, false, false, false, false, false, false, false, true, false, false, false, false, false, false]
abbrev D18m807 : Array Bool := #[true, true, true, false, false, false, false, false, false, false, false, true, false, false, false, false, false, false]
abbrev D18m80f : Array Bool := #[true, true, true, true, false, false, false, false, false, false, false, true, false, false, false, false, false, false]
abbrev D18m81f : Array Bool := #[true, true, true, true, true, false, false, false, false, false, false, true, false, false, false, false, false, false]
abbrev D18m83f : Array Bool := #[true, true, true, true, true, true, false, false, false, false, false, true, false, false, false, false, false, false]
abbrev D18m87f : Array Bool := #[true, true, true, true, true, true, true, false, false, false, false, true, false, false, false, false, false, false]
abbrev D18m8ff : Array Bool := #[true, true, true, true, true, true, true, true, false, false, false, true, false, false, false, false, false, false]
abbrev D18m9ff : Array Bool := #[true, true, true, true, true, true, true, true, true, false, false, true, false, false, false, false, false, false]
abbrev D18md : Array Bool := #[true, false, true, true, false, false, false, false, false, false, false, false, false, false, false, false, false, false]
abbrev D18mffff : Array Bool := #[true, true, true, true, true, true, true, true, true, true, true, true, true, true, true, true, false, false]
abbrev D25m0 : Array Bool := #[false, false, false, false, false, false, false, false, false, false, false, false, false, false, false, false, false, false, false, false, false, false, false, false, false]
abbrev D25m1 : Array Bool := #[true, false, false, false, false, false, false, false, false, false, false, false, false, false, false, false, false, false, false, false, false, false, false, false, false]
abbrev D25m11bff : Array Bool := #[true, true, true, true, true, true, true, true, true, true, false, true, true, false, false, false, true, false, false, false, false, false, false, false, false]
abbrev D25m11fff : Array Bool := #[true, true, true, true, true, true, true, true, true, true, true, true, true, false, false, false, true, false, false, false, false, false, false, false, false]
abbrev D25m13fff : Array Bool := #[true, true, true, true, true, true, true, true, true, true, true, true, true, true, false, false, true, false, false, false, false, false, false, false, false]
abbrev D25m17 : Array Bool := #[true, true, true, false, true, false, false, false, false, false, false, false, false, false, false, false, false, false, false, false, false, false, false, false, false]
abbrev D25m17fff : Array Bool := #[true, true, true, true, true, true, true, true, true, true, true, true, true, true, true, false, true, false, false, false, false, false, false, false, false]
abbrev D25m1bff : Array Bool := #[true, true, true, true, true, true, true, true, true, true, false, true, true, false, false, false, false, false, false, false, false, false, false, false, false]
abbrev D25m1f : Array Bool := #[true, true, true, true, true, false, false, false, false, false, false, false, false, false, false, false, false, false, false, false, false, false, false, false, false]
abbrev D25m1ff : Array Bool := #[true, true, true, true, true, true, true, true, true, false, false, false, false, false, false, false, false, false, false, false, false, false, false, false, false]
abbrev D25m1fff : Array Bool := #[true, true, true, true, true, true, true, true, true, true, true, true, true, false, false, false, false, false, false, false, false, false, false, false, false]
abbrev D25m1ffff : Array Bool := #[true, true, true, true, true, true, true, true, true, true, true, true, true, true, true, true, true, false, false, false, false, false, false, false, false]
abbrev D25m1fffff : Array Bool := #[true, true, true, true, true, true, true, true, true, true, true, true, true, true, true, true, true, true, true, true, true, false, false, false, false]
abbrev D25m1ffffff : Array Bool := #[true, true, true, true, true, true, true, true, true, true, true, true, true, true, true, true, true, true, true, true, true, true, true, true, true]
abbrev D25m3 : Array Bool := #[true, true, false, false, false, false, false, false, false, false, false, false, false, false, false, false, false, false, false, false, false, false, false, false, false]
abbrev D25m3f : Array Bool := #[true, true, true, true, true, true, false, false, false, false, false, false, false, false, false, false, false, false, false, false, false, false, false, false, false]
abbrev D25m3ff : Array Bool := #[true, true, true, true, true, true, true, true, true, true, false, false, false, false, false, false, false, false, false, false, false, false, false, false, false]
abbrev D25m3fff : Array Bool := #[true, true, true, true, true, true, true, true, true, true, true, true, true, true, false, false, false, false, false, false, false, false, false, false, false]
abbrev D25m3ffff : Array Bool := #[true, true, true, true, true, true, true, true, true, true, true, true, true, true, true, true, true, true, false, false, false, false, false, false, false]
abbrev D25m3fffff : Array Bool := #[true, true, true, true, true, true, true, true, true, true, true, true, true, true, true, true, true, true, true, true, true, true, false, false, false]
abbrev D25m57 : Array Bool := #[true, true, true, false, true, false, true, false, false, false, false, false, false, false, false, false, false, false, false, false, false, false, false, false, false]
abbrev D25m5f : Array Bool := #[true, true, true, true, true, false, true, false, false, false, false, false, false, false, false, false, false, false, false, false, false, false, false, false, false]
abbrev D25m7 : Array Bool := #[true, true, true, false, false, false, false, false, false, false, false, false, false, false, false, false, false, false, false, false, false, false, false, false, false]
abbrev D25m7f : Array Bool := #[true, true, true, true, true, true, true, false, false, false, false, false, false, false, false, false, false, false, false, false, false, false, false, false, false]
abbrev D25m7ff : Array Bool := #[true, true, true, true, true, true, true, true, true, true, true, false, false, false, false, false, false, false, false, false, false, false, false, false, false]
abbrev D25m7fff : Array Bool := #[true, true, true, true, true, true, true, true, true, true, true, true, true, true, true, false, false, false, false, false, false, false, false, false, false]
abbrev D25m7ffff : Array Bool := #[true, true, true, true, true, true, true, true, true, true, true, true, true, true, true, true, true, true, true, false, false, false, false, false, false]
abbrev D25m7fffff : Array Bool := #[true, true, true, true, true, true, true, true, true, true, true, true, true, true, true, true, true, true, true, true, true, true, true, false, false]
abbrev D25mbff : Array Bool := #[true, true, true, true, true, true, true, true, true, true, false, true, false, false, false, false, false, false, false, false, false, false, false, false, false]
abbrev D25mf : Array Bool := #[true, true, true, true, false, false, false, false, false, false, false, false, false, false, false, false, false, false, false, false, false, false, false, false, false]
abbrev D25mff : Array Bool := #[true, true, true, true, true, true, true, true, false, false, false, false, false, false, false, false, false, false, false, false, false, false, false, false, false]
abbrev D25mfff : Array Bool := #[true, true, true, true, true, true, true, true, true, true, true, true, false, false, false, false, false, false, false, false, false, false, false, false, false]
abbrev D25mffff : Array Bool := #[true, true, true, true, true, true, true, true, true, true, true, true, true, true, true, true, false, false, false, false, false, false, false, false, false]
abbrev D25mfffff : Array Bool := #[true, true, true, true, true, true, true, true, true, true, true, true, true, true, true, true, true, true, true, true, false, false, false, false, false]
abbrev D25mffffff : Array Bool := #[true, true, true, true, true, true, true, true, true, true, true, true, true, true, true, true, true, true, true, true, true, true, true, true, false]
abbrev D26m0 : Array Bool := #[false, false, false, false, false, false, false, false, false, false, false, false, false, false, false, false, false, false, false, false, false, false, false, false, false, false]
abbrev D26m1 : Array Bool := #[true, false, false, false, false, false, false, false, false, false, false, false, false, false, false, false, false, false, false, false, false, false, false, false, false, false]
abbrev D26m101 : Array Bool := #[true, false, false, false, false, false, false, false, true, false, false, false, false, false, false, false, false, false, false, false, false, false, false, false, false, false]
abbrev D26m103 : Array Bool := #[true, true, false, false, false, false, false, false, true, false, false, false, false, false, false, false, false, false, false, false, false, false, false, false, false, false]
abbrev D26m10b : Array Bool := #[true, true, false, true, false, false, false, false, true, false, false, false, false, false, false, false, false, false, false, false, false, false, false, false, false, false]
abbrev D26m11b : Array Bool := #[true, true, false, true, true, false, false, false, true, false, false, false, false, false, false, false, false, false, false, false, false, false, false, false, false, false]
abbrev D26m13b : Array Bool := #[true, true, false, true, true, true, false, false, true, false, false, false, false, false, false, false, false, false, false, false, false, false, false, false, false, false]
abbrev D26m1fff : Array Bool := #[true, true, true, true, true, true, true, true, true, true, true, true, true, false, false, false, false, false, false, false, false, false, false, false, false, false]
abbrev D26m1ffff : Array Bool := #[true, true, true, true, true, true, true, true, true, true, true, true, true, true, true, true, true, false, false, false, false, false, false, false, false, false]
abbrev D26m1fffff : Array Bool := #[true, true, true, true, true, true, true, true, true, true, true, true, true, true, true, true, true, true, true, true, true, false, false, false, false, false]
abbrev D26m1ffffff : Array Bool := #[true, true, true, true, true, true, true, true, true, true, true, true, true, true, true, true, true, true, true, true, true, true, true, true, true, false]
abbrev D26m33b : Array Bool := #[true, true, false, true, true, true, false, false, true, true, false, false, false, false, false, false, false, false, false, false, false, false, false, false, false, false]
abbrev D26m3fff : Array Bool := #[true, true, true, true, true, true, true, true, true, true, true, true, true, true, false, false, false, false, false, false, false, false, false, false, false, false]
abbrev D26m3ffff : Array Bool := #[true, true, true, true, true, true, true, true, true, true, true, true, true, true, true, true, true, true, false, false, false, false, false, false, false, false]
abbrev D26m3fffff : Array Bool := #[true, true, true, true, true, true, true, true, true, true, true, true, true, true, true, true, true, true, true, true, true, true, false, false, false, false]
abbrev D26m3ffffff : Array Bool := #[true, true, true, true, true, true, true, true, true, true, true, true, true, true, true, true, true, true, true, true, true, true, true, true, true, true]
abbrev D26m5fffff : Array Bool := #[true, true, true, true, true, true, true, true, true, true, true, true, true, true, true, true, true, true, true, true, true, false, true, false, false, false]
abbrev D26m73b : Array Bool := #[true, true, false, true, true, true, false, false, true, true, true, false, false, false, false, false, false, false, false, false, false, false, false, false, false, false]
abbrev D26m73f : Array Bool := #[true, true, true, true, true, true, false, false, true, true, true, false, false, false, false, false, false, false, false, false, false, false, false, false, false, false]
abbrev D26m77f : Array Bool := #[true, true, true, true, true, true, true, false, true, true, true, false, false, false, false, false, false, false, false, false, false, false, false, false, false, false]
abbrev D26m7ff : Array Bool := #[true, true, true, true, true, true, true, true, true, true, true, false, false, false, false, false, false, false, false, false, false, false, false, false, false, false]
abbrev D26m7fff : Array Bool := #[true, true, true, true, true, true, true, true, true, true, true, true, true, true, true, false, false, false, false, false, false, false, false, false, false, false]
abbrev D26m7ffff : Array Bool := #[true, true, true, true, true, true, true, true, true, true, true, true, true, true, true, true, true, true, true, false, false, false, false, false, false, false]
abbrev D26m7fffff : Array Bool := #[true, true, true, true, true, true, true, true, true, true, true, true, true, true, true, true, true, true, true, true, true, true, true, false, false, false]
abbrev D26mfff : Array Bool := #[true, true, true, true, true, true, true, true, true, true, true, true, false, false, false, false, false, false, false, false, false, false, false, false, false, false]
abbrev D26mffff : Array Bool := #[true, true, true, true, true, true, true, true, true, true, true, true, true, true, true, true, false, false, false, false, false, false, false, false, false, false]
abbrev D26mfffff : Array Bool := #[true, true, true, true, true, true, true, true, true, true, true, true, true, true, true, true, true, true, true, true, false, false, false, false, false, false]
abbrev D26mffffff : Array Bool := #[true, true, true, true, true, true, true, true, true, true, true, true, true, true, true, true, true, true, true, true, true, true, true, true, false, false]
abbrev D28m0 : Array Bool := #[false, false, false, false, false, false, false, false, false, false, false, false, false, false, false, false, false, false, false, false, false, false, false, false, false, false, false, false]
abbrev D28m1 : Array Bool := #[true, false, false, false, false, false, false, false, false, false, false, false, false, false, false, false, false, false, false, false, false, false, false, false, false, false, false, false]
abbrev D28m1f : Array Bool := #[true, true, true, true, true, false, false, false, false, false, false, false, false, false, false, false, false, false, false, false, false, false, false, false, false, false, false, false]
abbrev D28m1ff : Array Bool := #[true, true, true, true, true, true, true, true, true, false, false, false, false, false, false, false, false, false, false, false, false, false, false, false, false, false, false, false]
abbrev D28m1fff : Array Bool := #[true, true, true, true, true, true, true, true, true, true, true, true, true, false, false, false, false, false, false, false, false, false, false, false, false, false, false, false]
abbrev D28m1ffff : Array Bool := #[true, true, true, true, true, true, true, true, true, true, true, true, true, true, true, true, true, false, false, false, false, false, false, false, false, false, false, false]
abbrev D28m1fffff : Array Bool := #[true, true, true, true, true, true, true, true, true, true, true, true, true, true, true, true, true, true, true, true, true, false, false, false, false, false, false, false]
abbrev D28m1ffffff : Array Bool := #[true, true, true, true, true, true, true, true, true, true, true, true, true, true, true, true, true, true, true, true, true, true, true, true, true, false, false, false]
abbrev D28m3 : Array Bool := #[true, true, false, false, false, false, false, false, false, false, false, false, false, false, false, false, false, false, false, false, false, false, false, false, false, false, false, false]
abbrev D28m3f : Array Bool := #[true, true, true, true, true, true, false, false, false, false, false, false, false, false, false, false, false, false, false, false, false, false, false, false, false, false, false, false]
abbrev D28m3ff : Array Bool := #[true, true, true, true, true, true, true, true, true, true, false, false, false, false, false, false, false, false, false, false, false, false, false, false, false, false, false, false]
abbrev D28m3fff : Array Bool := #[true, true, true, true, true, true, true, true, true, true, true, true, true, true, false, false, false, false, false, false, false, false, false, false, false, false, false, false]
abbrev D28m3ffff : Array Bool := #[true, true, true, true, true, true, true, true, true, true, true, true, true, true, true, true, true, true, false, false, false, false, false, false, false, false, false, false]
abbrev D28m3ffffff : Array Bool := #[true, true, true, true, true, true, true, true, true, true, true, true, true, true, true, true, true, true, true, true, true, true, true, true, true, true, false, false]
abbrev D28m5fffff : Array Bool := #[true, true, true, true, true, true, true, true, true, true, true, true, true, true, true, true, true, true, true, true, true, false, true, false, false, false, false, false]
abbrev D28m7 : Array Bool := #[true, true, true, false, false, false, false, false, false, false, false, false, false, false, false, false, false, false, false, false, false, false, false, false, false, false, false, false]
abbrev D28m7f : Array Bool := #[true, true, true, true, true, true, true, false, false, false, false, false, false, false, false, false, false, false, false, false, false, false, false, false, false, false, false, false]
abbrev D28m7ff : Array Bool := #[true, true, true, true, true, true, true, true, true, true, true, false, false, false, false, false, false, false, false, false, false, false, false, false, false, false, false, false]
abbrev D28m7fff : Array Bool := #[true, true, true, true, true, true, true, true, true, true, true, true, true, true, true, false, false, false, false, false, false, false, false, false, false, false, false, false]
abbrev D28m7ffff : Array Bool := #[true, true, true, true, true, true, true, true, true, true, true, true, true, true, true, true, true, true, true, false, false, false, false, false, false, false, false, false]
abbrev D28m7ffffff : Array Bool := #[true, true, true, true, true, true, true, true, true, true, true, true, true, true, true, true, true, true, true, true, true, true, true, true, true, true, true, false]
abbrev D28mdfffff : Array Bool := #[true, true, true, true, true, true, true, true, true, true, true, true, true, true, true, true, true, true, true, true, true, false, true, true, false, false, false, false]
abbrev D28mf : Array Bool := #[true, true, true, true, false, false, false, false, false, false, false, false, false, false, false, false, false, false, false, false, false, false, false, false, false, false, false, false]
abbrev D28mff : Array Bool := #[true, true, true, true, true, true, true, true, false, false, false, false, false, false, false, false, false, false, false, false, false, false, false, false, false, false, false, false]
abbrev D28mfff : Array Bool := #[true, true, true, true, true, true, true, true, true, true, true, true, false, false, false, false, false, false, false, false, false, false, false, false, false, false, false, false]
abbrev D28mffff : Array Bool := #[true, true, true, true, true, true, true, true, true, true, true, true, true, true, true, true, false, false, false, false, false, false, false, false, false, false, false, false]
abbrev D28mfffff : Array Bool := #[true, true, true, true, true, true, true, true, true, true, true, true, true, true, true, true, true, true, true, true, false, false, false, false, false, false, false, false]
abbrev D28mffffff : Array Bool := #[true, true, true, true, true, true, true, true, true, true, true, true, true, true, true, true, true, true, true, true, true, true, true, true, false, false, false, false]
abbrev D28mfffffff : Array Bool := #[true, true, true, true, true, true, true, true, true, true, true, true, true, true, true, true, true, true, true, true, true, true, true, true, true, true, true, true]
abbrev D7m0 : Array Bool := #[false, false, false, false, false, false, false]
abbrev D7m1f : Array Bool := #[true, true, true, true, true, false, false]
abbrev D7m3f : Array Bool := #[true, true, true, true, true, true, false]
abbrev D7m4 : Array Bool := #[false, false, true, false, false, false, false]
abbrev D7m5 : Array Bool := #[true, false, true, false, false, false, false]
abbrev D7m7 : Array Bool := #[true, true, true, false, false, false, false]
abbrev D7m7f : Array Bool := #[true, true, true, true, true, true, true]
abbrev D7mf : Array Bool := #[true, true, true, true, false, false, false]
end Go.Proofs.Ytcebojamjllmjaa.PHoist

-- cut by wip/trim.py out of a text of words that the kit's print lays
import Derived.Test.YtejmjeanhlkenaaVTab
/-! ### 56. Four, five, six operations that may come up next, in any order -/
namespace Go.Proofs.YtejmjeanhlkenaaW.PrintLast
section
variable {P : Program} {ops : Array Oper} {Q : Exit → Act → World → Prop} {md : Region.Mode} {S : World → Prop} {ds : List Nat} {T : Bool × List (List Nat × List Nat)}
end
end Go.Proofs.YtejmjeanhlkenaaW.PrintLast

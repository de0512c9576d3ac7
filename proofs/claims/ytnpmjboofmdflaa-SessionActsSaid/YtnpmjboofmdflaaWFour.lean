-- Out of a text that print.sh printed: what nothing in this claim leans on was left out by this session (wip/tools/shaketree.py). Not trusted: Lean checks it.
import Derived.Test.YtnpmjboofmdflaaWTab
/-! ### 56. Four, five, six operations that may come up next, in any order -/
namespace Go.Proofs.YtnpmjboofmdflaaW.PrintLast
section
variable {P : Program} {ops : Array Oper} {Q : Exit → Act → World → Prop} {md : Region.Mode} {S : World → Prop} {ds : List Nat} {T : Bool × List (List Nat × List Nat)}
end
end Go.Proofs.YtnpmjboofmdflaaW.PrintLast

-- Out of a text that print.sh printed: what nothing in this claim leans on was left out by this session (wip/tools/shaketree.py). Not trusted: Lean checks it.
import Derived.Test.YtnpmjboofmdflaaWWords
/-! ### 58. A guarded operation whose guard is known to want it: the same goal without the guard -/
namespace Go.Proofs.YtnpmjboofmdflaaW.PrintWords
open Go.RowKit
section
variable {P : Program} {ops : Array Oper} {rest : List Oper} {o : Oper} {a : Act} {Q : Exit → Act → World → Prop} {W : World}
end
end Go.Proofs.YtnpmjboofmdflaaW.PrintWords

-- Out of a text that print.sh printed: what nothing in this claim leans on was left out by this session (wip/tools/shaketree.py). Not trusted: Lean checks it.
import Derived.Test.YthcdlgphabaidaaWInv
import Derived.Test.YthcdlgphabaidaaWFootNe
namespace Go.Proofs.YthcdlgphabaidaaW.PrintWords
open Go.RowKit
end Go.Proofs.YthcdlgphabaidaaW.PrintWords
namespace Go.Proofs.YthcdlgphabaidaaW.PrintLast
section
variable {ops : Array Oper} {a : Act} {o og : Oper} {g : Nat} {t : Tmp} {u : Bool}
end
end Go.Proofs.YthcdlgphabaidaaW.PrintLast

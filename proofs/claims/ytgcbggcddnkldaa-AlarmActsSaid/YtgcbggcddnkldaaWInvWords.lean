-- Out of a text that print.sh printed: what nothing in this claim leans on was left out by this session (wip/tools/shaketree.py). Not trusted: Lean checks it.
import Derived.Test.YtgcbggcddnkldaaWInv
import Derived.Test.YtgcbggcddnkldaaWFootNe
namespace Go.Proofs.YtgcbggcddnkldaaW.PrintWords
open Go.RowKit
end Go.Proofs.YtgcbggcddnkldaaW.PrintWords
namespace Go.Proofs.YtgcbggcddnkldaaW.PrintLast
section
variable {ops : Array Oper} {a : Act} {o og : Oper} {g : Nat} {t : Tmp} {u : Bool}
end
end Go.Proofs.YtgcbggcddnkldaaW.PrintLast

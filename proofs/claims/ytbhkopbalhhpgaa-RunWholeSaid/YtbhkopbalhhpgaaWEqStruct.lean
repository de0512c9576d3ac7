-- Out of a text that print.sh printed: what nothing in this claim leans on was left out by this session (wip/tools/shaketree.py). Not trusted: Lean checks it.
import Derived.Test.YtbhkopbalhhpgaaWWords
import Derived.Laws.StructEq
/-! ### 53. '==' of structs as_ one Bool -/
namespace Go.Proofs.YtbhkopbalhhpgaaW.PrintWords
open Go.RowKit
section
variable {P : Program} {d : Nat} {xs ys : Array Value} {f : Field} {fs : List Field} {a b : Value} {r s : Bool} {w : World}
end
end Go.Proofs.YtbhkopbalhhpgaaW.PrintWords

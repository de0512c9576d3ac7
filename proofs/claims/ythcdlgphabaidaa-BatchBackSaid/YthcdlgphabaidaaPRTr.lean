/- The document's table functions in plain words: order, right, same, find, range, put, drop, writes. -/
import Derived.Test.YthcdlgphabaidaaPRx2
import Derived.Test.YthcdlgphabaidaaPRx3
import Derived.Test.YthcdlgphabaidaaPRTa
namespace Go.Proofs.Ythcdlgphabaidaa.PR
open Go.RowKit Go.Proofs.YthcdlgphabaidaaW.PrintWords
set_option linter.unusedVariables false
set_option linter.unusedSimpArgs false

end Go.Proofs.Ythcdlgphabaidaa.PR

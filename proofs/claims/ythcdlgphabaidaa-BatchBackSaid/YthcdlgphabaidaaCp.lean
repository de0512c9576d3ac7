/- 'copy' between rows of elements of several cells, as a run; the words that a walk takes it by. -/
import Derived.Laws.CopyRow
import Derived.Laws.CopyOwn
import Derived.Deep.RegionLaw
import Derived.Test.YthcdlgphabaidaaWWords
namespace Go.Proofs.Ythcdlgphabaidaa.Cp
open Go.RowKit Go.Proofs.YthcdlgphabaidaaW.PrintWords
variable {P : Program}

end Go.Proofs.Ythcdlgphabaidaa.Cp

/- 'copy' between rows of elements of several cells, as a run; the words that a walk takes it by. -/
import Derived.Laws.CopyRow
import Derived.Laws.CopyOwn
import Derived.Deep.RegionLaw
import Derived.Test.YtnpmjboofmdflaaWWords
namespace Go.Proofs.Ytnpmjboofmdflaa.Cp
open Go.RowKit Go.Proofs.YtnpmjboofmdflaaW.PrintWords
variable {P : Program}

end Go.Proofs.Ytnpmjboofmdflaa.Cp

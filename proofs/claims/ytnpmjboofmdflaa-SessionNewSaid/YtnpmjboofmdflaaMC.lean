/- The document's alarm functions in plain words: put, pop, due, drop, the same; and whether the program says of a row that it is a heap. -/
import Derived.Test.YtnpmjboofmdflaaMB
namespace Go.Proofs.Ytnpmjboofmdflaa.PB
open Go.RowKit Go.Proofs.YtnpmjboofmdflaaW.PrintWords Go.Proofs.Ytnpmjboofmdflaa.Hp

end Go.Proofs.Ytnpmjboofmdflaa.PB

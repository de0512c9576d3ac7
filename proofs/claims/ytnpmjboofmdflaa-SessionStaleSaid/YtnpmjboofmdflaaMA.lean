/- What the alarm functions of the program come to, in plain words (Hp): less, put, sink, pop. -/
import Derived.Test.YtnpmjboofmdflaaPBx3
import Derived.Test.YtnpmjboofmdflaaPBx4
import Derived.Test.YtnpmjboofmdflaaPBx5
import Derived.Test.YtnpmjboofmdflaaHp
namespace Go.Proofs.Ytnpmjboofmdflaa.PB
open Go.RowKit Go.Proofs.YtnpmjboofmdflaaW.PrintWords Go.Proofs.Ytnpmjboofmdflaa.Hp

def lt (a b : S85) : Bool := decide (a.f0 < b.f0) || (decide (a.f0 = b.f0) && decide (a.f1 < b.f1))
end Go.Proofs.Ytnpmjboofmdflaa.PB

/- Rows of the call's own whose elements hold no row: their cells are a plain list. -/
import Derived.Test.YthcdlgphabaidaaWWords
namespace Go.Proofs.Ythcdlgphabaidaa.Cp
open Go.RowKit Go.Proofs.YthcdlgphabaidaaW.PrintWords
section
variable {α : Type} {d : Kd α} (f : α → List Value)

end
end Go.Proofs.Ythcdlgphabaidaa.Cp

/- Rows of the call's own whose elements hold no row: their cells are a plain list. -/
import Derived.Test.YtgcbggcddnkldaaWWords
namespace Go.Proofs.Ytgcbggcddnkldaa.Cp
open Go.RowKit Go.Proofs.YtgcbggcddnkldaaW.PrintWords
section
variable {α : Type} {d : Kd α} (f : α → List Value)

end
end Go.Proofs.Ytgcbggcddnkldaa.Cp

/- A row that rises is told by what is found in it; what writes make of nothing is told by the last write of each key. -/
import Derived.Test.YtbhkopbalhhpgaaPMMw
namespace Go.Proofs.Ytbhkopbalhhpgaa.PM
open Go.RowKit Go.Proofs.YtbhkopbalhhpgaaW.PrintWords
set_option linter.unusedVariables false
set_option linter.unusedSimpArgs false

theorem run_fold_eq (l : List S57) (hl : l.length ≤ 1000000) : run_Fold.f l = some (l.foldl stepW ([] : List S62)) := by
  unfold run_Fold.f
  rw [apply_eq [] l (by rw [List.length_nil]; omega), Option.bind_some]
end Go.Proofs.Ytbhkopbalhhpgaa.PM

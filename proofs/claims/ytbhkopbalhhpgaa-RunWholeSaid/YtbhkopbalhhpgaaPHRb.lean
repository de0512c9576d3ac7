/- What the run's functions come to in plain words: may, the sum, seal and open, a row's bytes, and the row of bytes; what was written is taken as it was. -/
import Derived.Test.YtbhkopbalhhpgaaPHRn
namespace Go.Proofs.Ytbhkopbalhhpgaa.PH
open Go.RowKit Go.Proofs.YtbhkopbalhhpgaaW.PrintWords
set_option linter.unusedVariables false
set_option linter.unusedSimpArgs false

/- may -/
/- the sum; seal and open -/
/- the row of bytes -/
/- a row's bytes -/
theorem rshown_ev : Ev (fun k => stanchionlaw06_shown.f k) true := Ev.of stanchionlaw06_shown.mono (k := 100) (by decide +kernel)
end Go.Proofs.Ytbhkopbalhhpgaa.PH

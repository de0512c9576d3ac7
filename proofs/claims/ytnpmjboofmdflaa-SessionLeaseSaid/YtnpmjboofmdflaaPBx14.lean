-- Made by a program of this workplace out of the translation (wip/tools in the repo). Not trusted: Lean checks it.
import Derived.Test.YtnpmjboofmdflaaPBx0
import Derived.Test.YtnpmjboofmdflaaPBx3
import Derived.Test.YtnpmjboofmdflaaPBx7
import Derived.Test.YtnpmjboofmdflaaPBx12
import Derived.Test.YtnpmjboofmdflaaPBx13
namespace Go.Proofs.Ytnpmjboofmdflaa.PB
open Go.RowKit Go.Proofs.YtnpmjboofmdflaaW.PrintWords Go.Proofs.YtnpmjboofmdflaaW.PrintLast Go.Proofs.YtnpmjboofmdflaaW.PrintMore
attribute [local go_sem] max2_int min2_int max_two min_two max_three min_three max_four min_four   -- for this text's walks alone
set_option linter.unusedVariables false
set_option linter.unusedSimpArgs false

/-! ### stanchionref17_renewed: function 44 -/
/-! ### stanchionref17_put: function 45 -/
/-! ### stanchionref17_Take: function 17 -/
/-! ### stanchionref17_Answer: function 18 -/
-- NOT PRINTED: function 46 (session_Bind_1)

/-! ### session_Bind: function 19 -/
end Go.Proofs.Ytnpmjboofmdflaa.PB

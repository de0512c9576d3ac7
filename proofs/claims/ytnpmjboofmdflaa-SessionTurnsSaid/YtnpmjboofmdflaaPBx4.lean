-- Made by a program of this workplace out of the translation (wip/tools in the repo). Not trusted: Lean checks it.
import Derived.Test.YtnpmjboofmdflaaPBx0
import Derived.Test.YtnpmjboofmdflaaPBx3
namespace Go.Proofs.Ytnpmjboofmdflaa.PB
open Go.RowKit Go.Proofs.YtnpmjboofmdflaaW.PrintWords Go.Proofs.YtnpmjboofmdflaaW.PrintLast Go.Proofs.YtnpmjboofmdflaaW.PrintMore
attribute [local go_sem] max2_int min2_int max_two min_two max_three min_three max_four min_four   -- for this text's walks alone
set_option linter.unusedVariables false
set_option linter.unusedSimpArgs false

/-! ### stanchionref15_Heap (function 25): what it is -/
/-! ### session_Renew (function 26): what it is -/
/-! ### alarm_sink (function 71): what it is -/
/-! ### alarm_Pop (function 66): what it is -/
/-! ### alarm_Due (function 54): what it is -/
/-! ### session_Tick (function 27): what it is -/
/-! ### stanchionlaw17_SessionLease (function 8): what it is -/
/-! ### stanchionref17_Open (function 28): what it is -/
/-! ### stanchionref17_Renew (function 29): what it is -/
/-! ### stanchionref17_less (function 56): what it is -/
/-! ### stanchionref17_Close (function 30): what it is -/
/-! ### stanchionref15_Pop (function 67): what it is -/
/-! ### stanchionref15_Due (function 58): what it is -/
/-! ### stanchionref17_Tick (function 31): what it is -/
/-! ### session_Of: function 33 -/
/-! ### stanchionref17_Of (function 34): what it is -/
/-! ### stanchionref17_New (function 37): what it is -/
end Go.Proofs.Ytnpmjboofmdflaa.PB

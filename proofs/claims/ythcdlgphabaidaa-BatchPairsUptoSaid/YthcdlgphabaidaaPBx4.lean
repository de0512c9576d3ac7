-- Made by a program of this workplace out of the translation (wip/tools in the repo). Not trusted: Lean checks it.
import Derived.Test.YthcdlgphabaidaaPBx0
import Derived.Test.YthcdlgphabaidaaPBx3
namespace Go.Proofs.Ythcdlgphabaidaa.PB
open Go.RowKit Go.Proofs.YthcdlgphabaidaaW.PrintWords Go.Proofs.YthcdlgphabaidaaW.PrintLast Go.Proofs.YthcdlgphabaidaaW.PrintMore
attribute [local go_sem] max2_int min2_int max_two min_two max_three min_three max_four min_four   -- for this text's walks alone
set_option linter.unusedVariables false
set_option linter.unusedSimpArgs false

/-! ### dec_TakeNum (function 55): what it is -/
/-! ### dec_TakeText (function 56): what it is -/
/-! ### stanchionref01_TakeNum (function 41): what it is -/
/-! ### stanchionref01_TakeText (function 42): what it is -/
/-! ### stanchionref07_Take (function 21): what it is -/
/-! ### stanchionref05_Writes (function 43): what it is -/
/-! ### stanchionref07_SameBatch (function 22): what it is -/
/-! ### table_at: function 61 -/
/-! ### table_Find (function 49): what it is -/
/-! ### batch_Decided (function 27): what it is -/
/-! ### api_Pair_58 (function 58): what it is -/
/-! ### table_Put: function 48 -/
/-! ### table_Drop: function 69 -/
/-! ### table_Apply: function 47 -/
/-! ### batch_Do (function 25): what it is -/
/-! ### stanchionref05_Find (function 26): what it is -/
/-! ### stanchionlaw07_BatchApart (function 6): what it is -/
/-! ### stanchionref05_Right (function 28): what it is -/
/-! ### stanchionlaw07_BatchWrites (function 7): what it is -/
/-! ### stanchionref07_Decided (function 30): what it is -/
/-! ### stanchionref05_Put (function 51): what it is -/
/-! ### stanchionref05_Drop (function 65): what it is -/
/-! ### stanchionref05_Apply (function 50): what it is -/
/-! ### stanchionref07_Do (function 29): what it is -/
end Go.Proofs.Ythcdlgphabaidaa.PB

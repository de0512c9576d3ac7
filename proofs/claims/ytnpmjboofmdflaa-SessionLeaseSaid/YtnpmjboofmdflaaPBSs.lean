/- Whether two rows of sessions, or of alarms, are the same. -/
import Derived.Test.YtnpmjboofmdflaaPBSa
namespace Go.Proofs.Ytnpmjboofmdflaa.PB
open Go.RowKit Go.Proofs.YtnpmjboofmdflaaW.PrintWords Go.Proofs.YtnpmjboofmdflaaW.PrintMore Go.Proofs.Ytnpmjboofmdflaa.Hp

noncomputable instance : DecidableEq S42 := fun _ _ => Classical.propDecidable _
noncomputable instance : DecidableEq S85 := fun _ _ => Classical.propDecidable _
end Go.Proofs.Ytnpmjboofmdflaa.PB

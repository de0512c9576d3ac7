-- Made by a program of this workplace out of the translation (wip/tools in the repo). Not trusted: Lean checks it.
import Derived.Test.YtgcbggcddnkldaaPBx2
namespace Go.Proofs.Ytgcbggcddnkldaa.PB
open Go.RowKit Go.Proofs.YtgcbggcddnkldaaW.PrintWords Go.Proofs.YtgcbggcddnkldaaW.PrintLast Go.Proofs.YtgcbggcddnkldaaW.PrintMore
set_option linter.unusedVariables false
def g25 (x : Int) : Prop := (Lit.int .u64 x).wf = true
def g3 (x : Int) : Prop := (Lit.int .i64 x).wf = true
def g27 (x : S27) : Prop := (Lit.int .u64 x.f0).wf = true ∧ (Lit.int .i64 x.f1).wf = true
def g22 (x : List (S27)) : Prop := x.length * 16 ≤ 140737488351232 ∧ ∀ y ∈ x, g27 y
def g40 (x : S40) : Prop := (x.f0.length * 16 ≤ 140737488351232 ∧ ∀ y ∈ x.f0, g27 y) ∧ g27 x.f1 ∧ (Lit.int .u64 x.f2).wf = true ∧ (Lit.int .i64 x.f3).wf = true
def stanchionlaw15_AlarmActs.Pure : Prop := ∀ (x0 : S40), g40 x0 → ∃ k, stanchionlaw15_AlarmActs.f k x0.f0 x0.f1.f0 x0.f1.f1 x0.f2 x0.f3 = some true
end Go.Proofs.Ytgcbggcddnkldaa.PB

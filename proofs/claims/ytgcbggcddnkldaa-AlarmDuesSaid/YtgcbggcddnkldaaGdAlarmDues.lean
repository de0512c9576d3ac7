-- Made by a program of this workplace out of the translation (wip/tools in the repo). Not trusted: Lean checks it.
import Derived.Test.YtgcbggcddnkldaaPBx2
namespace Go.Proofs.Ytgcbggcddnkldaa.PB
open Go.RowKit Go.Proofs.YtgcbggcddnkldaaW.PrintWords Go.Proofs.YtgcbggcddnkldaaW.PrintLast Go.Proofs.YtgcbggcddnkldaaW.PrintMore
def g25 (x : Int) : Prop := (Lit.int .u64 x).wf = true
def g3 (x : Int) : Prop := (Lit.int .i64 x).wf = true
def g27 (x : S27) : Prop := (Lit.int .u64 x.f0).wf = true ∧ (Lit.int .i64 x.f1).wf = true
def g22 (x : List (S27)) : Prop := x.length * 16 ≤ 140737488351232 ∧ ∀ y ∈ x, g27 y
def stanchionlaw15_AlarmDues.Pure : Prop := ∀ (x0 : List (S27)) (x1 : Int) (x2 : Int), g22 x0 → g25 x1 → g3 x2 → ∃ k, stanchionlaw15_AlarmDues.f k x0 x1 x2 = some true
end Go.Proofs.Ytgcbggcddnkldaa.PB

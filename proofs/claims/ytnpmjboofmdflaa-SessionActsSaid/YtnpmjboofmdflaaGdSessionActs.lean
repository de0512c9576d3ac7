-- Made by a program of this workplace out of the translation (wip/tools in the repo). Not trusted: Lean checks it.
import Derived.Test.YtnpmjboofmdflaaPAx4
namespace Go.Proofs.Ytnpmjboofmdflaa.PA
open Go.RowKit Go.Proofs.YtnpmjboofmdflaaW.PrintWords Go.Proofs.YtnpmjboofmdflaaW.PrintLast Go.Proofs.YtnpmjboofmdflaaW.PrintMore
set_option linter.unusedVariables false
def g3 (x : Int) : Prop := (Lit.int .i64 x).wf = true
def g4 (x : Bool) : Prop := True
def g9 (x : ByteArray) : Prop := x.size ≤ 140737488351232
def g42 (x : S42) : Prop := (Lit.int .i64 x.f0).wf = true ∧ (Lit.int .i64 x.f1).wf = true ∧ True ∧ x.f3.size ≤ 140737488351232 ∧ (Lit.int .i64 x.f4).wf = true ∧ (Lit.int .i64 x.f5).wf = true
def g22 (x : List (S42)) : Prop := x.length * 56 ≤ 140737488351232 ∧ ∀ y ∈ x, g42 y
def g24 (x : Int) : Prop := (Lit.int .u64 x).wf = true
def g85 (x : S85) : Prop := (Lit.int .u64 x.f0).wf = true ∧ (Lit.int .i64 x.f1).wf = true
def g23 (x : List (S85)) : Prop := x.length * 16 ≤ 140737488351232 ∧ ∀ y ∈ x, g85 y
def g26 (x : S26) : Prop := (Lit.int .i64 x.f0).wf = true ∧ (x.f1.length * 56 ≤ 140737488351232 ∧ ∀ y ∈ x.f1, g42 y) ∧ (x.f2.length * 16 ≤ 140737488351232 ∧ ∀ y ∈ x.f2, g85 y) ∧ (Lit.int .i64 x.f3).wf = true ∧ (Lit.int .u64 x.f4).wf = true
def g68 (x : S68) : Prop := g26 x.f0 ∧ (Lit.int .i64 x.f1).wf = true ∧ (Lit.int .i64 x.f2).wf = true ∧ (Lit.int .u64 x.f3).wf = true ∧ (Lit.int .i64 x.f4).wf = true ∧ g26 x.f5
def stanchionlaw17_SessionActs.Pure : Prop := ∀ (x0 : S68), g68 x0 → ∃ k, stanchionlaw17_SessionActs.f k x0.f0.f0 x0.f0.f1 x0.f0.f2 x0.f0.f3 x0.f0.f4 x0.f1 x0.f2 x0.f3 x0.f4 x0.f5.f0 x0.f5.f1 x0.f5.f2 x0.f5.f3 x0.f5.f4 = some true
end Go.Proofs.Ytnpmjboofmdflaa.PA

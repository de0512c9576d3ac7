-- Made by a program of this workplace out of the translation (wip/tools in the repo). Not trusted: Lean checks it.
import Derived.Test.YtbkfmicnjnklnaaPBx4
namespace Go.Proofs.Ytbkfmicnjnklnaa.PB
open Go.RowKit Go.Proofs.YtbkfmicnjnklnaaW.PrintWords Go.Proofs.YtbkfmicnjnklnaaW.PrintLast Go.Proofs.YtbkfmicnjnklnaaW.PrintMore
set_option linter.unusedVariables false
def g9 (x : ByteArray) : Prop := x.size ≤ 140737488351232
def g43 (x : S43) : Prop := x.f0.size ≤ 140737488351232 ∧ x.f1.size ≤ 140737488351232
def g23 (x : List (S43)) : Prop := x.length * 32 ≤ 140737488351232 ∧ ∀ y ∈ x, g43 y
def g3 (x : Int) : Prop := (Lit.int .i64 x).wf = true
def g48 (x : S48) : Prop := (x.f0.length * 32 ≤ 140737488351232 ∧ ∀ y ∈ x.f0, g43 y) ∧ x.f1.size ≤ 140737488351232 ∧ x.f2.size ≤ 140737488351232 ∧ x.f3.size ≤ 140737488351232 ∧ (Lit.int .i64 x.f4).wf = true
def stanchionlaw12_ViewNothing.Pure : Prop := ∀ (x0 : S48), g48 x0 → ∃ k, stanchionlaw12_ViewNothing.f k x0.f0 x0.f1 x0.f2 x0.f3 x0.f4 = some true
end Go.Proofs.Ytbkfmicnjnklnaa.PB

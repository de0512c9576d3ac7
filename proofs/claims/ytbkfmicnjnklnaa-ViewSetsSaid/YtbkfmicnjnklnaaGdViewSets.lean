-- Made by a program of this workplace out of the translation (wip/tools in the repo). Not trusted: Lean checks it.
import Derived.Test.YtbkfmicnjnklnaaPBx2
namespace Go.Proofs.Ytbkfmicnjnklnaa.PB
open Go.RowKit Go.Proofs.YtbkfmicnjnklnaaW.PrintWords Go.Proofs.YtbkfmicnjnklnaaW.PrintLast Go.Proofs.YtbkfmicnjnklnaaW.PrintMore
set_option linter.unusedVariables false
def g9 (x : ByteArray) : Prop := x.size ≤ 140737488351232
def g4 (x : Bool) : Prop := True
def g33 (x : S33) : Prop := x.f0.size ≤ 140737488351232 ∧ x.f1.size ≤ 140737488351232 ∧ True
def g22 (x : List (S33)) : Prop := x.length * 40 ≤ 140737488351232 ∧ ∀ y ∈ x, g33 y
def stanchionlaw12_ViewSets.Pure : Prop := ∀ (x0 : List (S33)) (x1 : S33), g22 x0 → g33 x1 → ∃ k, stanchionlaw12_ViewSets.f k x0 x1.f0 x1.f1 x1.f2 = some true
end Go.Proofs.Ytbkfmicnjnklnaa.PB

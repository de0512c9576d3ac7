-- Made by a program of this workplace out of the translation (wip/tools in the repo). Not trusted: Lean checks it.
import Derived.Test.YtbhkopbalhhpgaaPMx4
namespace Go.Proofs.Ytbhkopbalhhpgaa.PM
open Go.RowKit Go.Proofs.YtbhkopbalhhpgaaW.PrintWords Go.Proofs.YtbhkopbalhhpgaaW.PrintLast Go.Proofs.YtbhkopbalhhpgaaW.PrintMore
set_option linter.unusedVariables false
def g9 (x : ByteArray) : Prop := x.size ≤ 140737488351232
def g4 (x : Bool) : Prop := True
def g57 (x : S57) : Prop := x.f0.size ≤ 140737488351232 ∧ x.f1.size ≤ 140737488351232 ∧ True
def g54 (x : List (S57)) : Prop := x.length * 40 ≤ 140737488351232 ∧ ∀ y ∈ x, g57 y
def stanchionlaw06_RunMerges.Pure : Prop := ∀ (x0 : List (S57)) (x1 : List (S57)), g54 x0 → g54 x1 → ∃ k, stanchionlaw06_RunMerges.f k x0 x1 = some true
end Go.Proofs.Ytbhkopbalhhpgaa.PM

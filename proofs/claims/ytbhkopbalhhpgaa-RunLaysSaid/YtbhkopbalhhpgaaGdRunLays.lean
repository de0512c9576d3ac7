-- Made by a program of this workplace out of the translation (wip/tools in the repo). Not trusted: Lean checks it.
import Derived.Test.YtbhkopbalhhpgaaPYx5
namespace Go.Proofs.Ytbhkopbalhhpgaa.PY
open Go.RowKit Go.Proofs.YtbhkopbalhhpgaaW.PrintWords Go.Proofs.YtbhkopbalhhpgaaW.PrintLast Go.Proofs.YtbhkopbalhhpgaaW.PrintMore
set_option linter.unusedVariables false
def g9 (x : ByteArray) : Prop := x.size ≤ 140737488351232
def g38 (x : S38) : Prop := x.f0.size ≤ 140737488351232 ∧ x.f1.size ≤ 140737488351232 ∧ x.f2.size ≤ 140737488351232
def g31 (x : List (S38)) : Prop := x.length * 48 ≤ 140737488351232 ∧ ∀ y ∈ x, g38 y
def g3 (x : Int) : Prop := (Lit.int .i64 x).wf = true
def g4 (x : Bool) : Prop := True
def g33 (x : S33) : Prop := (x.f0.length * 48 ≤ 140737488351232 ∧ ∀ y ∈ x.f0, g38 y) ∧ (Lit.int .i64 x.f1).wf = true ∧ (Lit.int .i64 x.f2).wf = true ∧ True
def stanchionlaw06_RunLays.Pure : Prop := ∀ (x0 : S33) (x1 : ByteArray) (x2 : ByteArray), g33 x0 → g9 x1 → g9 x2 → ∃ k, stanchionlaw06_RunLays.f k x0.f0 x0.f1 x0.f2 x0.f3 x1 x2 = some true
end Go.Proofs.Ytbhkopbalhhpgaa.PY

-- Made by a program of this workplace out of the translation (wip/tools in the repo). Not trusted: Lean checks it.
import Derived.Test.YtbhkopbalhhpgaaPBx2
namespace Go.Proofs.Ytbhkopbalhhpgaa.PB
open Go.RowKit Go.Proofs.YtbhkopbalhhpgaaW.PrintWords Go.Proofs.YtbhkopbalhhpgaaW.PrintLast Go.Proofs.YtbhkopbalhhpgaaW.PrintMore
set_option linter.unusedVariables false
def g9 (x : ByteArray) : Prop := x.size ≤ 140737488351232
def g62 (x : S62) : Prop := x.f0.size ≤ 140737488351232 ∧ x.f1.size ≤ 140737488351232
def g22 (x : List (S62)) : Prop := x.length * 32 ≤ 140737488351232 ∧ ∀ y ∈ x, g62 y
def g3 (x : Int) : Prop := (Lit.int .i64 x).wf = true
def b9 (x : ByteArray) : Nat := x.size + 1
def b62 (x : S62) : Nat := b9 x.f0 + (b9 x.f1)
def b22 (x : List (S62)) : Nat := (x.map b62).sum + 1
def b3 (x : Int) : Nat := 1
def stanchionlaw06_RunBack.Pure : Prop := ∀ (x0 : List (S62)) (x1 : Int), g22 x0 → g3 x1 → (b22 x0 + (b3 x1 + 0)) ≤ 1048576 → ∃ k, stanchionlaw06_RunBack.f k x0 x1 = some true
end Go.Proofs.Ytbhkopbalhhpgaa.PB

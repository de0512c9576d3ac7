-- Made by a program of this workplace out of the translation (wip/tools in the repo). Not trusted: Lean checks it.
import Derived.Test.YtdoamckcibcdcaaPBx2
namespace Go.Proofs.Ytdoamckcibcdcaa.PB
open Go.RowKit Go.Proofs.YtdoamckcibcdcaaW.PrintWords Go.Proofs.YtdoamckcibcdcaaW.PrintLast Go.Proofs.YtdoamckcibcdcaaW.PrintMore
set_option linter.unusedVariables false
def g9 (x : ByteArray) : Prop := x.size ≤ 140737488351232
def g59 (x : S59) : Prop := x.f0.size ≤ 140737488351232 ∧ x.f1.size ≤ 140737488351232
def g22 (x : List (S59)) : Prop := x.length * 32 ≤ 140737488351232 ∧ ∀ y ∈ x, g59 y
def g4 (x : Bool) : Prop := True
def g56 (x : S56) : Prop := x.f0.size ≤ 140737488351232 ∧ x.f1.size ≤ 140737488351232 ∧ True
def g47 (x : List (S56)) : Prop := x.length * 40 ≤ 140737488351232 ∧ ∀ y ∈ x, g56 y
def b9 (x : ByteArray) : Nat := x.size + 1
def b59 (x : S59) : Nat := b9 x.f0 + (b9 x.f1)
def b22 (x : List (S59)) : Nat := (x.map b59).sum + 1
def b4 (x : Bool) : Nat := 1
def b56 (x : S56) : Nat := b9 x.f0 + (b9 x.f1 + (b4 x.f2))
def b47 (x : List (S56)) : Nat := (x.map b56).sum + 1
def stanchionlaw05_TableLast.Pure : Prop := ∀ (x0 : List (S59)) (x1 : List (S56)) (x2 : ByteArray), g22 x0 → g47 x1 → g9 x2 → (b22 x0 + (b47 x1 + (b9 x2 + 0))) ≤ 1048576 → ∃ k, stanchionlaw05_TableLast.f k x0 x1 x2 = some true
end Go.Proofs.Ytdoamckcibcdcaa.PB

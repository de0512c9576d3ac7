-- Made by a program of this workplace out of the translation (wip/tools in the repo). Not trusted: Lean checks it.
import Derived.Test.YtdoamckcibcdcaaPBx2
namespace Go.Proofs.Ytdoamckcibcdcaa.PB
open Go.RowKit Go.Proofs.YtdoamckcibcdcaaW.PrintWords Go.Proofs.YtdoamckcibcdcaaW.PrintLast Go.Proofs.YtdoamckcibcdcaaW.PrintMore
set_option linter.unusedVariables false
def g9 (x : ByteArray) : Prop := x.size ≤ 140737488351232
def g59 (x : S59) : Prop := x.f0.size ≤ 140737488351232 ∧ x.f1.size ≤ 140737488351232
def g22 (x : List (S59)) : Prop := x.length * 32 ≤ 140737488351232 ∧ ∀ y ∈ x, g59 y
def g4 (x : Bool) : Prop := True
def g56 (x : S56) : Prop := x.f0.size ≤ 140737488351232 ∧ x.f1.size ≤ 140737488351232 ∧ True
def g47 (x : List (S56)) : Prop := x.length * 40 ≤ 140737488351232 ∧ ∀ y ∈ x, g56 y
def g53 (x : S53) : Prop := (x.f0.length * 32 ≤ 140737488351232 ∧ ∀ y ∈ x.f0, g59 y) ∧ x.f1.size ≤ 140737488351232 ∧ x.f2.size ≤ 140737488351232 ∧ (x.f3.length * 40 ≤ 140737488351232 ∧ ∀ y ∈ x.f3, g56 y) ∧ x.f4.size ≤ 140737488351232 ∧ x.f5.size ≤ 140737488351232
def b9 (x : ByteArray) : Nat := x.size + 1
def b59 (x : S59) : Nat := b9 x.f0 + (b9 x.f1)
def b22 (x : List (S59)) : Nat := (x.map b59).sum + 1
def b4 (x : Bool) : Nat := 1
def b56 (x : S56) : Nat := b9 x.f0 + (b9 x.f1 + (b4 x.f2))
def b47 (x : List (S56)) : Nat := (x.map b56).sum + 1
def b53 (x : S53) : Nat := b22 x.f0 + (b9 x.f1 + (b9 x.f2 + (b47 x.f3 + (b9 x.f4 + (b9 x.f5)))))
def stanchionlaw05_TableStays.Pure : Prop := ∀ (x0 : S53), g53 x0 → (b53 x0 + 0) ≤ 1048576 → ∃ k, stanchionlaw05_TableStays.f k x0.f0 x0.f1 x0.f2 x0.f3 x0.f4 x0.f5 = some true
end Go.Proofs.Ytdoamckcibcdcaa.PB

-- Made by a program of this workplace out of the translation (wip/tools in the repo). Not trusted: Lean checks it.
import Derived.Test.YtbkfmicnjnklnaaPBx3
namespace Go.Proofs.Ytbkfmicnjnklnaa.PB
open Go.RowKit Go.Proofs.YtbkfmicnjnklnaaW.PrintWords Go.Proofs.YtbkfmicnjnklnaaW.PrintLast Go.Proofs.YtbkfmicnjnklnaaW.PrintMore
set_option linter.unusedVariables false
def g9 (x : ByteArray) : Prop := x.size ≤ 140737488351232
def g4 (x : Bool) : Prop := True
def g33 (x : S33) : Prop := x.f0.size ≤ 140737488351232 ∧ x.f1.size ≤ 140737488351232 ∧ True
def g22 (x : List (S33)) : Prop := x.length * 40 ≤ 140737488351232 ∧ ∀ y ∈ x, g33 y
def g43 (x : S43) : Prop := x.f0.size ≤ 140737488351232 ∧ x.f1.size ≤ 140737488351232
def g23 (x : List (S43)) : Prop := x.length * 32 ≤ 140737488351232 ∧ ∀ y ∈ x, g43 y
def b9 (x : ByteArray) : Nat := x.size + 1
def b4 (x : Bool) : Nat := 1
def b33 (x : S33) : Nat := b9 x.f0 + (b9 x.f1 + (b4 x.f2))
def b22 (x : List (S33)) : Nat := (x.map b33).sum + 1
def b43 (x : S43) : Nat := b9 x.f0 + (b9 x.f1)
def b23 (x : List (S43)) : Nat := (x.map b43).sum + 1
def stanchionlaw12_ViewAgrees.Pure : Prop := ∀ (x0 : List (S33)) (x1 : List (S43)) (x2 : ByteArray), g22 x0 → g23 x1 → g9 x2 → (b22 x0 + (b23 x1 + (b9 x2 + 0))) ≤ 1048576 → ∃ k, stanchionlaw12_ViewAgrees.f k x0 x1 x2 = some true
end Go.Proofs.Ytbkfmicnjnklnaa.PB

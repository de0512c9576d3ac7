-- Made by a program of this workplace out of the translation (wip/tools in the repo). Not trusted: Lean checks it.
import Derived.Test.YtbkfmicnjnklnaaPCx1
namespace Go.Proofs.Ytbkfmicnjnklnaa.PC
open Go.RowKit Go.Proofs.YtbkfmicnjnklnaaW.PrintWords Go.Proofs.YtbkfmicnjnklnaaW.PrintLast Go.Proofs.YtbkfmicnjnklnaaW.PrintMore
set_option linter.unusedVariables false
def g9 (x : ByteArray) : Prop := x.size ≤ 140737488351232
def g4 (x : Bool) : Prop := True
def g33 (x : S33) : Prop := x.f0.size ≤ 140737488351232 ∧ x.f1.size ≤ 140737488351232 ∧ True
def g22 (x : List (S33)) : Prop := x.length * 40 ≤ 140737488351232 ∧ ∀ y ∈ x, g33 y
def b9 (x : ByteArray) : Nat := x.size + 1
def b4 (x : Bool) : Nat := 1
def b33 (x : S33) : Nat := b9 x.f0 + (b9 x.f1 + (b4 x.f2))
def b22 (x : List (S33)) : Nat := (x.map b33).sum + 1
def stanchionlaw12_ViewRises.Pure : Prop := ∀ (x0 : List (S33)) (x1 : S33), g22 x0 → g33 x1 → (b22 x0 + (b33 x1 + 0)) ≤ 1048576 → ∃ k, stanchionlaw12_ViewRises.f k x0 x1.f0 x1.f1 x1.f2 = some true
end Go.Proofs.Ytbkfmicnjnklnaa.PC
